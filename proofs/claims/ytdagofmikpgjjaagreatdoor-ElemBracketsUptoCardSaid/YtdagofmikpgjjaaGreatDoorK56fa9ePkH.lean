/-
  Contract of package word, and what stands on it. Conditions: each theorem's own.
-/
import Derived.Test.YtdagofmikpgjjaaGreatDoorK8c77c7PkG
import Derived.Test.YtdagofmikpgjjaaGreatDoorK98c21dPkF
import Derived.Test.YtdagofmikpgjjaaGreatDoorK829733PkC
set_option linter.unusedVariables false
set_option linter.unusedSimpArgs false
open Nat (reduceAdd)
namespace Go.Q
open Go.Proofs
set_option maxRecDepth 100000
set_option maxHeartbeats 4000000
theorem xG {n:Nat} (h:n≠0):1≤bl n∧2^(bl n - 1)≤n:=by
  have h1:¬bl n≤0:=by rw[bl_le];simp;omega
  refine⟨by omega,?_⟩
  rcases Nat.lt_or_ge n (2^(bl n - 1)) with h' |h'
  · have:=bl_le.2 h';omega
  · exact h'
theorem Fx {n:Nat} (hn:n≠0) {s:Nat} (hs:s=32 - bl (n / 4294967296^((W 4294967296 n).length - 1))):
    (W 4294967296 (n*2^s)).length=(W 4294967296 n).length∧2147483648≤(W 4294967296 (n*2^s)).getD ((W 4294967296 n).length - 1) 0∧s≤31:=by
  obtain⟨L,hL⟩:∃L,(W 4294967296 n).length=L+1:=⟨_,(Nat.succ_pred (by have:=jQ B32 hn;omega)).symm⟩
  obtain⟨h1,h2,h3⟩:=W_top B32 hn
  rw[hL] at h1 h2 h3 hs ⊢
  simp only[Nat.add_sub_cancel] at h1 h2 h3 hs ⊢
  have ht:n / 4294967296^L≠0:=by have:=Nat.div_pos h2 (Nat.pow_pos (by decide));omega
  have hb:=xG ht
  have hb2:=(bl_le (k:=32)).2 h3
  have e:bl n=bl (n / 4294967296^L)+32*L:=by
    have:=rS (n:=n) (k:=32*L) (by rw[B_pow];exact h2)
    rwa[B_pow] at this
  have hlow:=(xG hn).2
  have hup:=bl_le.1 (Nat.le_refl (bl n))
  have hDu:n*2^s < 4294967296^(L+1):=by
    have:=Nat.mul_lt_mul_of_pos_right hup (show 0 < 2^s from Nat.pow_pos (by decide))
    rwa[←Nat.pow_add,show bl n+s=32*(L+1) by omega,B_pow] at this
  have hDl:4294967296^L*2147483648≤n*2^s:=by
    have:=Nat.mul_le_mul_right (2^s) hlow
    rwa[←Nat.pow_add,show bl n - 1+s=32*L+31 by omega,Nat.pow_add,B_pow,show(2:Nat)^31=2147483648 from by decide] at this
  have hP:0 < 4294967296^L:=Nat.pow_pos (by decide)
  have hlen:(W 4294967296 (n*2^s)).length=L+1:=by
    have h4:=cV B32 hDu
    have h5:=vD B32 (n:=n*2^s) (k:=L) (Nat.le_trans (Nat.le_mul_of_pos_right _ (by decide)) hDl)
    omega
  refine⟨hlen,?_,by omega⟩
  rw[rO B32,Nat.mod_eq_of_lt (by rw[Nat.div_lt_iff_lt_mul hP,Nat.mul_comm 4294967296,←Nat.pow_succ];exact hDu),Nat.le_div_iff_mul_le hP,Nat.mul_comm 2147483648]
  exact hDl
theorem Ec {B:Nat} {ws:List Nat} (h:0 < ws.length):val B ws=ws.getD 0 0+B*val B (ws.drop 1):=by
  cases ws with
  |nil=>simp at h
  |cons w ws=>simp[val]
theorem iZ (B:Nat) (ws:List Nat) (k:Nat) (h:k≤ws.length):val B ws=val B (ws.take k)+B^k*val B (ws.drop k):=by
  conv=>lhs;rw[←List.take_append_drop k ws]
  rw[dD,List.length_take,Nat.min_eq_left h]
theorem spl_uws (rs ds:List Nat) (off:Nat) (h:off+ds.length≤rs.length):spl (uw rs) off (uw ds)=uw (rs.take off ++ds ++rs.drop (off+ds.length)):=by
  rw[spl_eq _ _ _ (by simpa[uw] using h)]
  simp[uw,List.map_take,List.map_drop]
theorem Arr.cells {h0:PH} {a:Option Addr} {c:Nat} {xs:List Nat} (r:Arr h0 a c xs) (h:PH) [Le h0 h] (hne:xs.length≠0):∃ad,a=some ad∧∀(j:Nat) (v:Value),(uw xs)[j]?=some v→h.at (ad.add j)=some v:=by
  obtain⟨ad,h1,_⟩:=r.rd h (i:=0) (by omega)
  refine⟨ad,h1,fun j v hv=>?_⟩
  have hj:j < xs.length:=by
    rcases Nat.lt_or_ge j xs.length with h |h
    · exact h
    · rw[List.getElem?_eq_none (by simpa[uw] using h)] at hv;cases hv
  obtain⟨ad',h2,h3⟩:=r.rd h hj
  obtain rfl:ad=ad':=by rw[h1] at h2;exact Option.some.inj h2
  rw[yL hj] at hv
  rw[h3];exact hv
theorem C8 {V P W D B Z M:Nat} (h:V+P*W+D*(P*B*Z)=M):V+P*(W % D)+D*(P*(W / D+B*Z))=M:=by
  have e:=congrArg (P*·) (Nat.div_add_mod W D)
  rw[Nat.mul_add,Nat.mul_left_comm] at e
  rw[Nat.mul_add P,Nat.mul_add D,←Nat.mul_assoc P B Z]
  omega
theorem xL {B:Nat} (hB:1≤B) {ws ws':List Nat} {k D:Nat} (hk:k+1≤ws.length) (hk':k+1≤ws'.length) (hlt:val B ws < B*D) (hD:D < B^k) (hd:ws'.drop (k+1)=ws.drop (k+1)) (hv:val B (ws'.take (k+1))=val B (ws.take (k+1)) % D):
    val B (ws.take (k+1))=val B ws∧val B ws'=val B ws % D:=by
  have h1:=iZ B ws (k+1) hk
  have hz:val B (ws.drop (k+1))=0:=by
    rcases Nat.eq_zero_or_pos (val B (ws.drop (k+1))) with h' |h'
    · exact h'
    · exfalso
      have h2:=Nat.le_mul_of_pos_right (B^(k+1)) h'
      have h3:B*D≤B^(k+1):=by rw[Nat.pow_succ,Nat.mul_comm];exact Nat.mul_le_mul_right _ (Nat.le_of_lt hD)
      omega
  rw[hz,Nat.mul_zero,Nat.add_zero] at h1
  refine⟨h1.symm,?_⟩
  rw[iZ B ws' (k+1) hk',hd,hz,hv,←h1,Nat.mul_zero,Nat.add_zero]
theorem gU {h0 h:PH} [Le h0 h] {v w:Value} {m n:Nat} (hv:N32 h0 v m) (hw:N32 h0 w n) (hn:n≠0) (bm:bl m≤2^39) (bn:bl n≤2^39):
    Spec mach 165 #[v,w] h (fun v h'=>∃q r,v=.tuple #[q,r]∧N32 h' q (m / n)∧N32 h' r (m % n)) NP:=by
  obtain⟨a,c,xs,hve,ha,hxs,hm⟩:=hv.out
  obtain⟨a',c',ys,hwe,ha',hys,hnn⟩:=hw.out
  subst hve hwe
  have hs:xs.length≤2^39:=by have:=dj m;rw[hxs] at this;omega
  have hs':ys.length≤2^39:=by have:=dj n;rw[hys] at this;omega
  have hl0:=jQ B32 hn
  rw[hys] at hl0
  refine Spec.enter (args:=[_,_]) (n:=85) Tryz.func165 rfl (by kernel_rfl) rfl (by simp) [.tmp 4,.tmp 5] rfl (fun C _=>?_)
  by_cases hlt:m < n
  · have hc:cmp3 m n < 0:=by simp[cmp3,hlt]
    repeat (first |(refine wo rfl (fun k hk=>?_);simp(disch:=omega) only[go_sem,Nat.reduceBEq,reduceAdd];apply hk;clear hk k) |refine wkt rfl ?_ |refine wk0 ?_ |refine rg rfl rfl (fun K hK=>?_) |((first |refine ae ?_ |refine ac ?_);simp(disch:=decide) only[qs,qb,if_true,if_false,reduceIte]) |refine ah rfl (fun K hK=>?_) |refine ct rfl ?_ |((try simp(disch:=omega) only[go_sem,Nat.reduceBEq,reduceAdd]);(first |apply hK |(clear hK;apply hK) |(clear hK;clear hK;apply hK));clear hK;(try clear K);(try dsimp only[ag,qs,qb])))
    refine cN rfl rfl rfl rfl (by exact fO hv hw) ?_;rintro v h1 hs1 rfl
    repeat (first |(refine wo rfl (fun k hk=>?_);simp(disch:=omega) only[go_sem,Nat.reduceBEq,reduceAdd];apply hk;clear hk k) |refine wkt rfl ?_ |refine wk0 ?_ |refine rg rfl rfl (fun K hK=>?_) |((first |refine ae ?_ |refine ac ?_);simp(disch:=decide) only[qs,qb,if_true,if_false,reduceIte]) |refine ah rfl (fun K hK=>?_) |refine ct rfl ?_ |((try simp(disch:=omega) only[go_sem,Nat.reduceBEq,reduceAdd]);(first |apply hK |(clear hK;apply hK) |(clear hK;clear hK;apply hK));clear hK;(try clear K);(try dsimp only[ag,qs,qb])))
    refine ai ?_;simp(disch:=omega) only[go_sem,Nat.reduceBEq,reduceAdd]
    exact⟨_,_,rfl,by rw[Nat.div_eq_of_lt hlt];exact N32.zero _,by rw[Nat.mod_eq_of_lt hlt];exact hv.to⟩
  have hc:0≤cmp3 m n:=by simp only[cmp3,if_neg hlt];split<;>decide
  by_cases hl1:ys.length=1
  · obtain⟨hnB,hn0⟩:=xr B32 (n:=n) (by rw[hys];exact hl1)
    rw[hys] at hn0
    repeat (first |(refine wo rfl (fun k hk=>?_);simp(disch:=omega) only[go_sem,Nat.reduceBEq,reduceAdd];apply hk;clear hk k) |refine wkt rfl ?_ |refine wk0 ?_ |refine rg rfl rfl (fun K hK=>?_) |((first |refine ae ?_ |refine ac ?_);simp(disch:=decide) only[qs,qb,if_true,if_false,reduceIte]) |refine ah rfl (fun K hK=>?_) |refine ct rfl ?_ |((try simp(disch:=omega) only[go_sem,Nat.reduceBEq,reduceAdd]);(first |apply hK |(clear hK;apply hK) |(clear hK;clear hK;apply hK));clear hK;(try clear K);(try dsimp only[ag,qs,qb])))
    refine cN rfl rfl rfl rfl (by exact fO hv hw) ?_;rintro v h1 hs1 rfl;(repeat (first |(refine wo rfl (fun k hk=>?_);simp(disch:=omega) only[go_sem,Nat.reduceBEq,reduceAdd];apply hk;clear hk k) |refine wkt rfl ?_));(try refine wk0 ?_)
    (try (simp(disch:=omega) only[go_sem,Nat.reduceBEq,reduceAdd]));apply hK;clear hK;(try clear K);(try dsimp only[ag,qs])
    obtain⟨ad,rfl,hat⟩:=ha'.rd0 h1 (by omega)
    rw[hn0] at hat
    repeat (first |(refine rg rfl rfl (fun K hK=>?_);(repeat (first |(refine wo rfl (fun k hk=>?_);simp(disch:=omega) only[go_sem,Nat.reduceBEq,reduceAdd];apply hk;clear hk k) |refine wkt rfl ?_));(try refine wk0 ?_);apply hK;clear hK K;(try dsimp only[ag,qs,qb])) |((first |refine ae ?_ |refine ac ?_);simp(disch:=decide) only[qs,qb,if_true,if_false,reduceIte]) |refine ah rfl (fun K hK=>?_) |refine ct rfl ?_ |((first |refine hK _ _ ?_ |(clear hK;refine hK _ _ ?_) |(clear hK;clear hK;refine hK _ _ ?_));clear hK;(try clear K)))
    refine rg rfl rfl (fun K hK=>?_);(repeat (first |(refine wo rfl (fun k hk=>?_);simp(disch:=omega) only[go_sem,Nat.reduceBEq,reduceAdd,hat];apply hk;clear hk k) |refine wkt rfl ?_));(try refine wk0 ?_)
    refine cN rfl rfl rfl rfl (by exact nN hv (by omega) (by omega) hnB) ?_;rintro v h2 hs2 ⟨q,rfl,hq⟩;(repeat (first |(refine wo rfl (fun k hk=>?_);simp(disch:=omega) only[go_sem,Nat.reduceBEq,reduceAdd];apply hk;clear hk k) |refine wkt rfl ?_));(try refine wk0 ?_)
    have hmod:=Nat.mod_lt m (show 0 < n by omega)
    (try (simp(disch:=omega) only[go_sem,Nat.reduceBEq,reduceAdd]));apply hK;clear hK;(try clear K);(try dsimp only[ag,qs])
    refine rg rfl rfl (fun K hK=>?_);(repeat (first |(refine wo rfl (fun k hk=>?_);simp(disch:=omega) only[go_sem,Nat.reduceBEq,reduceAdd];apply hk;clear hk k) |refine wkt rfl ?_));(try refine wk0 ?_)
    refine cN rfl rfl rfl rfl (by exact aw (n:=m % n) (by omega)) ?_;rintro v h3 hs3 hr;(repeat (first |(refine wo rfl (fun k hk=>?_);simp(disch:=omega) only[go_sem,Nat.reduceBEq,reduceAdd];apply hk;clear hk k) |refine wkt rfl ?_));(try refine wk0 ?_)
    (try (simp(disch:=omega) only[go_sem,Nat.reduceBEq,reduceAdd]));apply hK;clear hK;(try clear K);(try dsimp only[ag,qs])
    refine ai ?_;simp(disch:=omega) only[go_sem,Nat.reduceBEq,reduceAdd]
    exact⟨_,_,rfl,hq.to,hr⟩
  have hl2:2≤ys.length:=by omega
  repeat (first |(refine wo rfl (fun k hk=>?_);simp(disch:=omega) only[go_sem,Nat.reduceBEq,reduceAdd];apply hk;clear hk k) |refine wkt rfl ?_ |refine wk0 ?_ |refine rg rfl rfl (fun K hK=>?_) |((first |refine ae ?_ |refine ac ?_);simp(disch:=decide) only[qs,qb,if_true,if_false,reduceIte]) |refine ah rfl (fun K hK=>?_) |refine ct rfl ?_ |((try simp(disch:=omega) only[go_sem,Nat.reduceBEq,reduceAdd]);(first |apply hK |(clear hK;apply hK) |(clear hK;clear hK;apply hK));clear hK;(try clear K);(try dsimp only[ag,qs,qb])))
  refine cN rfl rfl rfl rfl (by exact fO hv hw) ?_;rintro v h1 hs1 rfl
  repeat (first |(refine wo rfl (fun k hk=>?_);simp(disch:=omega) only[go_sem,Nat.reduceBEq,reduceAdd];apply hk;clear hk k) |refine wkt rfl ?_ |refine wk0 ?_ |((first |refine rg rfl rfl (fun K hK=>?_));(repeat (first |(refine wo rfl (fun k hk=>?_);simp(disch:=omega) only[go_sem,Nat.reduceBEq,reduceAdd];apply hk;clear hk k) |refine wkt rfl ?_ |refine wk0 ?_));(first |apply hK |(clear hK;apply hK) |(clear hK;clear hK;apply hK));clear hK;(try clear K);(try dsimp only[ag,qs,qb])) |((first |refine ae ?_ |refine ac ?_);simp(disch:=decide) only[qs,qb,if_true,if_false,reduceIte]) |refine ah rfl (fun K hK=>?_) |refine ct rfl ?_ |((try simp(disch:=omega) only[go_sem,Nat.reduceBEq,reduceAdd]);(first |apply hK |(clear hK;apply hK) |(clear hK;clear hK;apply hK));clear hK;(try clear K);(try dsimp only[ag,qs,qb])))
  obtain⟨ht1,ht2,ht3⟩:=W_top B32 hn
  obtain⟨s,hse⟩:∃s,s=32 - bl (n / 4294967296^((W 4294967296 n).length - 1)):=⟨_,rfl⟩
  obtain⟨hdl,hdt,hs31⟩:=Fx hn hse
  rw[hys] at ht1 ht2 ht3 hdl hdt hse
  obtain⟨ad',rfl,hat'⟩:=ha'.rd h1 (i:=ys.length - 1) (by omega)
  rw[ht1] at hat'
  refine rg rfl rfl (fun K hK=>?_);(repeat (first |(refine wo rfl (fun k hk=>?_);simp(disch:=omega) only[go_sem,Nat.reduceBEq,reduceAdd,hat'];apply hk;clear hk k) |refine wkt rfl ?_));(try refine wk0 ?_)
  refine cN rfl rfl rfl rfl (by exact rm ht3) ?_;rintro v h2 hs2 hv2;(repeat (first |(refine wo rfl (fun k hk=>?_);simp(disch:=omega) only[go_sem,Nat.reduceBEq,reduceAdd];apply hk;clear hk k) |refine wkt rfl ?_));(try refine wk0 ?_)
  rw[←hse] at hv2;subst hv2
  (try (simp(disch:=omega) only[go_sem,Nat.reduceBEq,reduceAdd]));apply hK;clear hK;(try clear K);(try dsimp only[ag,qs])
  refine rg rfl rfl (fun K hK=>?_);(repeat (first |(refine wo rfl (fun k hk=>?_);simp(disch:=omega) only[go_sem,Nat.reduceBEq,reduceAdd];apply hk;clear hk k) |refine wkt rfl ?_));(try refine wk0 ?_)
  refine cN rfl rfl rfl rfl (by exact aL (n:=s) hw (by omega)) ?_;rintro v h3 hs3 hd
  repeat (first |(refine wo rfl (fun k hk=>?_);simp(disch:=omega) only[go_sem,Nat.reduceBEq,reduceAdd];apply hk;clear hk k) |refine wkt rfl ?_ |refine wk0 ?_ |refine rg rfl rfl (fun K hK=>?_) |((first |refine ae ?_ |refine ac ?_);simp(disch:=decide) only[qs,qb,if_true,if_false,reduceIte]) |refine ah rfl (fun K hK=>?_) |refine ct rfl ?_ |((try simp(disch:=omega) only[go_sem,Nat.reduceBEq,reduceAdd]);(first |apply hK |(clear hK;apply hK) |(clear hK;clear hK;apply hK));clear hK;(try clear K);(try dsimp only[ag,qs,qb])))
  refine cN rfl rfl rfl rfl (by exact aL (n:=s) hv (by omega)) ?_;rintro v4 h4 hs4 hu;(repeat (first |(refine wo rfl (fun k hk=>?_);simp(disch:=omega) only[go_sem,Nat.reduceBEq,reduceAdd];apply hk;clear hk k) |refine wkt rfl ?_));(try refine wk0 ?_)
  obtain⟨a4,c4,us,hue,ha4,hus,hum⟩:=hu.out
  subst hue
  obtain⟨ad,cd,ds,hde,had,hds,hdm⟩:=hd.out
  subst hde
  rw[hds] at hdl hdt
  have hul:us.length≤xs.length+1:=by
    rw[←hus]
    apply cV B32
    rw[Nat.pow_succ]
    have h5:m < 4294967296^xs.length:=by rw[←hxs];exact cW B32 m
    have h6:2^s≤2147483648:=Nat.pow_le_pow_right (show 0 < 2 by omega) hs31
    exact Nat.lt_of_lt_of_le (Nat.mul_lt_mul_of_pos_right h5 (Nat.pow_pos (by omega))) (Nat.mul_le_mul_left _ (by omega))
  refine wo rfl (fun k hk=>?_);simp(disch:=omega) only[go_sem,Nat.reduceBEq,reduceAdd]
  refine⟨uw us,by simp[uw];omega,fun hne=>ha4.cells h4 hne,uV us,?_⟩
  rw[spl_uws _ _ _ (by simp;omega)]
  simp only[List.take_zero,List.nil_append,List.drop_replicate,Nat.zero_add]
  apply hk;clear hk k
  (repeat (first |(refine wo rfl (fun k hk=>?_);simp(disch:=omega) only[go_sem,Nat.reduceBEq,reduceAdd];apply hk;clear hk k) |refine wkt rfl ?_));(try refine wk0 ?_)
  (try (simp(disch:=omega) only[go_sem,Nat.reduceBEq,reduceAdd]));apply hK;clear hK;(try clear K);(try dsimp only[ag,qs])
  have hyx:ys.length≤xs.length:=by have:=xw (show n≤m by omega);rwa[hxs,hys] at this
  repeat (first |(refine rg rfl rfl (fun K hK=>?_);(repeat (first |(refine wo rfl (fun k hk=>?_);simp(disch:=omega) only[go_sem,Nat.reduceBEq,reduceAdd];apply hk;clear hk k) |refine wkt rfl ?_));(try refine wk0 ?_);apply hK;clear hK K;(try dsimp only[ag,qs,qb])) |((first |refine ae ?_ |refine ac ?_);simp(disch:=decide) only[qs,qb,if_true,if_false,reduceIte]) |refine ah rfl (fun K hK=>?_) |refine ct rfl ?_ |((first |refine hK _ _ ?_ |(clear hK;refine hK _ _ ?_) |(clear hK;clear hK;refine hK _ _ ?_));clear hK;(try clear K)))
  have hD0:0 < n*2^s:=Nat.mul_pos (by omega) (Nat.pow_pos (by omega))
  have hval0:val 4294967296 (us ++List.replicate (xs.length+1 - us.length) 0)=m*2^s:=by rw[dD,mO,hum];simp
  have hlt0:∀x∈us ++List.replicate (xs.length+1 - us.length) 0,x < 4294967296:=by
    intro x hx
    rcases List.mem_append.1 hx with h' |h'
    · exact ha4.lt x h'
    · rw[(List.mem_replicate.1 h').2];decide
  have hlen0:(us ++List.replicate (xs.length+1 - us.length) 0).length=xs.length+1:=by simp;omega
  obtain⟨R0,hR0⟩:∃R,us ++List.replicate (xs.length+1 - us.length) 0=R:=⟨_,rfl⟩
  rw[hR0] at hval0 hlt0 hlen0 ⊢
  obtain⟨L,hL⟩:∃L,xs.length - ys.length=L:=⟨_,rfl⟩
  rw[hL]
  have hdrop:val 4294967296 (R0.drop (L+1)) < n*2^s:=by
    rcases Nat.lt_or_ge (val 4294967296 (R0.drop (L+1))) (n*2^s) with h' |h'
    · exact h'
    · exfalso
      have e1:val 4294967296 R0=val 4294967296 (R0.take (L+1))+4294967296^(L+1)*val 4294967296 (R0.drop (L+1)):=by
        conv=>lhs;rw[←List.take_append_drop (L+1) R0]
        rw[dD,List.length_take,Nat.min_eq_left (by omega)]
      have e2:=Nat.mul_le_mul_left (4294967296^(L+1)) h'
      have e3:4294967296^xs.length*2^s≤4294967296^(L+1)*(n*2^s):=by
        rw[←Nat.mul_assoc]
        refine Nat.mul_le_mul_right _ ?_
        have:=Nat.mul_le_mul_left (4294967296^(L+1)) ht2
        rwa[←Nat.pow_add,show L+1+(ys.length - 1)=xs.length by omega] at this
      have e4:m*2^s < 4294967296^xs.length*2^s:=Nat.mul_lt_mul_of_pos_right (by rw[←hxs];exact cW B32 m) (Nat.pow_pos (by decide))
      omega
  refine cg (fun x:Nat×List Nat×List Nat=>⟨[(8,.v (.int .i64 s)),(9,.v (.slice ad ds.length cd)),(10,.s 0 0 (xs.length+1) (xs.length+1)),(11,.s 1 0 (L+1) (L+1)),(12,.v (.int .i64 ((x.1:Int) - 1)))],[uw x.2.1,uw x.2.2]⟩)
    (fun x h'=>Le h0 h'∧Le h4 h'∧x.1≤L+1∧x.2.1.length=xs.length+1∧x.2.2.length=L+1∧(∀d∈x.2.1,d < 4294967296)∧(∀d∈x.2.2,d < 4294967296)∧val 4294967296 (x.2.1.drop x.1) < n*2^s∧val 4294967296 x.2.1+n*2^s*(4294967296^x.1*val 4294967296 (x.2.2.drop x.1))=m*2^s) (fun x=>x.1) (L+1,R0,List.replicate (L+1) 0) ?_ ⟨?_,?_,by simp,hlen0,by simp,hlt0,gG (by decide),hdrop,?_⟩ ?_
  · simp(disch:=omega) only[go_sem,Nat.reduceBEq,reduceAdd]
  · exact inferInstance
  · exact inferInstance
  · simp[hval0,val]
  · as_aux_lemma=>
    rintro⟨k,rs,zs⟩ h5 ⟨hle,hle4,hk,hrl,hql,hrlt,hqlt,hrd,hinv⟩
    dsimp only at hk hrl hql hrlt hqlt hrd hinv ⊢
    by_cases hk0:k=0
    · as_aux_lemma=>
      subst hk0
      simp only[List.drop_zero,Nat.pow_zero,Nat.one_mul] at hrd hinv
      repeat (first |(refine rg rfl rfl (fun K hK=>?_);(repeat (first |(refine wo rfl (fun k hk=>?_);simp(disch:=omega) only[go_sem,Nat.reduceBEq,reduceAdd];apply hk;clear hk k) |refine wkt rfl ?_));(try refine wk0 ?_);apply hK;clear hK K;(try dsimp only[ag,qs,qb])) |((first |refine ae ?_ |refine ac ?_);simp(disch:=decide) only[qs,qb,if_true,if_false,reduceIte]) |refine ah rfl (fun K hK=>?_) |refine ct rfl ?_ |((first |refine hK _ _ ?_ |(clear hK;refine hK _ _ ?_) |(clear hK;clear hK;refine hK _ _ ?_));clear hK;(try clear K)))
      refine fk [.p 1,.p 0,.o 0,.o 1,.o 2,.o 3,.o 4,.o 5,.o 6,.o 7] rfl rfl (fun K hK=>?_)
      refine wkp ?_;simp(disch:=omega) only[go_sem,Nat.reduceBEq,reduceAdd];intro b6 h6 hs6 hb6
      refine wkp ?_;simp(disch:=omega) only[go_sem,Nat.reduceBEq,reduceAdd];intro b7 h7 hs7 hb7
      have hA:Arr h6 (some ⟨b6,0,none⟩) (L+1) zs:=.of_row (fun hne=>hb6 ((uw_ne _).1 hne)) hqlt (by omega) (by omega)
      have hB:Arr h7 (some ⟨b7,0,none⟩) (xs.length+1) rs:=.of_row (fun hne=>hb7 ((uw_ne _).1 hne)) hrlt (by omega) (by omega)
      have hmn:m*2^s=n*2^s*val 4294967296 zs+val 4294967296 rs:=by omega
      have hq:val 4294967296 zs=m / n:=by
        have h8:m*2^s / (n*2^s)=val 4294967296 zs:=by rw[hmn,Nat.mul_add_div hD0,Nat.div_eq_of_lt hrd,Nat.add_zero]
        rw[←h8,Nat.mul_div_mul_right _ _ (Nat.pow_pos (by decide))]
      have hr:val 4294967296 rs=(m % n)*2^s:=by
        have h8:m*2^s % (n*2^s)=val 4294967296 rs:=by rw[hmn,Nat.mul_add_mod,Nat.mod_eq_of_lt hrd]
        rw[←h8,Nat.mul_mod_mul_right]
      (repeat (first |(refine wo rfl (fun k hk=>?_);simp(disch:=omega) only[go_sem,Nat.reduceBEq,reduceAdd];apply hk;clear hk k) |refine wkt rfl ?_));(try refine wk0 ?_)
      refine cN rfl rfl rfl rfl (by exact Of_L hA hql) ?_;rintro v8 h8 hs8 hq8;(repeat (first |(refine wo rfl (fun k hk=>?_);simp(disch:=omega) only[go_sem,Nat.reduceBEq,reduceAdd];apply hk;clear hk k) |refine wkt rfl ?_));(try refine wk0 ?_)
      refine cN rfl rfl rfl rfl (by exact Of_L hB hrl) ?_;rintro v9 h9 hs9 hr9;(repeat (first |(refine wo rfl (fun k hk=>?_);simp(disch:=omega) only[go_sem,Nat.reduceBEq,reduceAdd];apply hk;clear hk k) |refine wkt rfl ?_));(try refine wk0 ?_)
      rw[hr] at hr9
      have hbr:bl (m % n*2^s)≤2^40:=by
        have h10:bl (m % n*2^s)≤bl n+s:=by
          rw[bl_le,Nat.pow_add]
          exact Nat.mul_lt_mul_of_pos_right (Nat.lt_trans (Nat.mod_lt _ (by omega)) (bl_le.1 (Nat.le_refl _))) (Nat.pow_pos (by decide))
        omega
      refine cN rfl rfl rfl rfl (by exact gD hr9 hbr (by omega)) ?_;rintro v10 h10 hs10 hr10;(repeat (first |(refine wo rfl (fun k hk=>?_);simp(disch:=omega) only[go_sem,Nat.reduceBEq,reduceAdd];apply hk;clear hk k) |refine wkt rfl ?_));(try refine wk0 ?_)
      (try (simp(disch:=omega) only[go_sem,Nat.reduceBEq,reduceAdd]));apply hK;clear hK;(try clear K);(try dsimp only[ag,qs])
      refine ai ?_;simp(disch:=omega) only[go_sem,Nat.reduceBEq,reduceAdd]
      rw[hq] at hq8
      rw[Nat.mul_div_cancel _ (Nat.pow_pos (by decide))] at hr10
      exact⟨_,_,rfl,hq8.to,hr10⟩
    · obtain⟨k,rfl⟩:∃j,k=j+1:=⟨k - 1,by omega⟩
      have hpre:(rs.take k).length=k:=by simp;omega
      obtain⟨pre,hpe⟩:∃p,rs.take k=p:=⟨_,rfl⟩
      obtain⟨ws,hwe⟩:∃p,rs.drop k=p:=⟨_,rfl⟩
      have hrs:rs=pre ++ws:=by rw[←hpe,←hwe,List.take_append_drop]
      rw[hpe] at hpre
      subst hrs hpre
      clear hpe hwe
      have hpl:(pre ++ws).length=pre.length+ws.length:=List.length_append
      rw[hpl] at hrl
      repeat (first |(refine rg rfl rfl (fun K hK=>?_);(repeat (first |(refine wo rfl (fun k hk=>?_);simp(disch:=omega) only[go_sem,Nat.reduceBEq,reduceAdd];apply hk;clear hk k) |refine wkt rfl ?_));(try refine wk0 ?_);apply hK;clear hK K;(try dsimp only[ag,qs,qb])) |((first |refine ae ?_ |refine ac ?_);simp(disch:=decide) only[qs,qb,if_true,if_false,reduceIte]) |refine ah rfl (fun K hK=>?_) |refine ct rfl ?_ |((first |refine hK _ _ ?_ |(clear hK;refine hK _ _ ?_) |(clear hK;clear hK;refine hK _ _ ?_));clear hK;(try clear K)))
      have hif:(if xs.length+1=pre.length then 0 else pre.length)=pre.length:=if_neg (by omega)
      have hsb:pre.length+ds.length+1 - pre.length=ds.length+1:=by omega
      refine ug rfl ?_
      (repeat (first |(refine wo rfl (fun k hk=>?_);simp(disch:=omega) only[go_sem,Nat.reduceBEq,reduceAdd,hif,hsb];apply hk;clear hk k) |refine wkt rfl ?_));(try refine wk0 ?_)
      refine wo rfl (fun k hk=>?_);simp(disch:=omega) only[go_sem,Nat.reduceBEq,reduceAdd,true_or]
      have hwlt:∀x∈ws,x < 4294967296:=fun x hx=>hrlt x (List.mem_append.2 (.inr hx))
      have hdr1:(pre ++ws).drop (pre.length+1)=ws.drop 1:=by rw[List.drop_append];simp
      rw[hdr1] at hrd
      have hw0:=aM (by decide) hwlt 0
      have hUB:val 4294967296 ws < 4294967296*(n*2^s):=by
        rw[Ec (by omega)]
        have:=Nat.mul_le_mul_left 4294967296 (show val 4294967296 (ws.drop 1)+1≤n*2^s by omega)
        omega
      haveI:Le h3 h5:=⟨hs4.sub.trans hle4.sub⟩
      refine zB 0 rfl ?_ rfl (E5 (ys:=ds) (h0:=h3) (a:=ad) (c:=cd) had (by omega) (by omega) (by rw[hdl];exact hdt) hwlt (by omega) (by omega) (by omega) ?_) ?_
      · intro e
        have:=congrArg List.length e
        simp only[AS.box,List.getD_cons_zero,uw,List.length_map,List.length_append,List.length_nil] at this
        omega
      · rw[hdm];exact Nat.lt_of_le_of_lt (by rw[iZ 4294967296 ws (ds.length+1) (by omega)];omega) hUB
      · rintro v row' h6 hs6 ⟨rfl,ws',rfl,hl6,hlt6,hd6,hv6⟩
        simp(disch:=omega) only[go_sem,Nat.reduceBEq,reduceAdd]
        have hpl6:(pre ++ws').length=pre.length+ws.length:=by rw[List.length_append,hl6]
        apply hk;clear hk k
        (repeat (first |(refine wo rfl (fun k hk=>?_);simp(disch:=omega) only[go_sem,Nat.reduceBEq,reduceAdd];apply hk;clear hk k) |refine wkt rfl ?_));(try refine wk0 ?_)
        simp only[Q.qs,qb,if_true,if_false]
        repeat (first |(refine wo rfl (fun k hk=>?_);simp(disch:=omega) only[go_sem,Nat.reduceBEq,reduceAdd];apply hk;clear hk k) |refine wkt rfl ?_ |refine wk0 ?_ |((first |refine rg rfl rfl (fun K hK=>?_));(repeat (first |(refine wo rfl (fun k hk=>?_);simp(disch:=omega) only[go_sem,Nat.reduceBEq,reduceAdd];apply hk;clear hk k) |refine wkt rfl ?_ |refine wk0 ?_));(first |apply hK |(clear hK;apply hK) |(clear hK;clear hK;apply hK));clear hK;(try clear K);(try dsimp only[ag,qs,qb])) |((first |refine ae ?_ |refine ac ?_);simp(disch:=decide) only[qs,qb,if_true,if_false,reduceIte]) |refine ah rfl (fun K hK=>?_) |refine ct rfl ?_ |((try simp(disch:=omega) only[go_sem,Nat.reduceBEq,reduceAdd]);(first |apply hK |(clear hK;apply hK) |(clear hK;clear hK;apply hK));clear hK;(try clear K);(try dsimp only[ag,qs,qb])))
        have hDB:n*2^s < 4294967296^ds.length:=by rw[←hdm];exact iU (by decide) ds had.lt
        rw[hdm] at hv6
        obtain⟨hUw,hw'⟩:=xL (by decide) (show ds.length+1≤ws.length by omega) (show ds.length+1≤ws'.length by omega) hUB hDB hd6 hv6
        rw[hUw,hdm]
        refine⟨(pre.length,pre ++ws',zs.set pre.length (val 4294967296 ws / (n*2^s))),?_,⟨inferInstance,inferInstance,by dsimp only;omega,by dsimp only;omega,by simp[hql],?_,d9 hqlt (by rw[Nat.div_lt_iff_lt_mul hD0];exact hUB),?_,?_⟩,by dsimp only;omega⟩
        · simp(disch:=omega) only[go_sem,Nat.reduceBEq,reduceAdd]
        · intro x hx
          rcases List.mem_append.1 hx with h' |h'
          · exact hrlt x (List.mem_append.2 (.inl h'))
          · exact hlt6 x h'
        · dsimp only
          rw[List.drop_left,hw'];exact Nat.mod_lt _ hD0
        · dsimp only
          rw[mJ (xs:=zs.set pre.length _) (by simp[hql];omega),oe (by omega),List.drop_set_of_lt (by omega),val,dD,hw']
          rw[dD,Nat.pow_succ] at hinv
          exact C8 hinv
theorem aR {m n:Nat} (h:m≤n):bl m≤bl n:=bl_le.2 (Nat.lt_of_le_of_lt h (bl_le.1 (Nat.le_refl _)))
theorem GCD_spec {h0 h:PH} [Le h0 h] {v w:Value} {m n:Nat} (hv:N32 h0 v m) (hw:N32 h0 w n) (bm:bl m≤2^39) (bn:bl n≤2^39):Spec mach 275 #[v,w] h (fun v h'=>N32 h' v (Nat.gcd m n)) NP:=by
  refine Spec.go [] Tryz.func275 rfl rfl (by kernel_rfl) fun C _=>?_
  try simp(maxSteps:=999999) (disch:=omega) only[go_sem,Nat.reduceBEq,reduceAdd]
  refine lp [] (fun x:Value×Value×Nat×Nat=>⟨[(0,.v x.1),(1,.v x.2.1)],[]⟩) (fun x h'=>N32 h' x.1 x.2.2.1∧N32 h' x.2.1 x.2.2.2∧bl x.2.2.1≤2^39∧bl x.2.2.2≤2^39∧Nat.gcd x.2.2.1 x.2.2.2=Nat.gcd m n) (fun x=>x.2.2.2) (v,w,m,n) ?_ ⟨hv.to,hw.to,bm,bn,rfl⟩ (by kernel_rfl) ?_
  · try simp(maxSteps:=999999) (disch:=omega) only[go_sem,Nat.reduceBEq,reduceAdd]
  · rintro⟨va,vb,m',n'⟩ h1 ⟨ha,hb,ba,bb,hg⟩
    dsimp only at ha hb ba bb hg ⊢
    obtain⟨a,c,ys,hbe,hay,hys,hyn⟩:=hb.out
    subst hbe
    have hl:=nP B32 (n:=n')
    rw[hys] at hl
    by_cases hn:n'=0
    · try simp(maxSteps:=999999) (disch:=omega) only[go_sem,Nat.reduceBEq,reduceAdd]
      rw[hn,Nat.gcd_zero_right] at hg
      rwa[←hg]
    · try simp(maxSteps:=999999) (disch:=omega) only[go_sem,Nat.reduceBEq,reduceAdd]
      refine caN (by exact gU ha hb hn ba bb) ?_;rintro v2 h2 hs2 ⟨q,r,rfl,hq,hr⟩
      try simp(maxSteps:=999999) (disch:=omega) only[go_sem,Nat.reduceBEq,reduceAdd]
      dsimp only[lpE];refine⟨(_,r,n',m' % n'),?_,⟨hb.to,hr.to,bb,Nat.le_trans (aR (Nat.le_of_lt (Nat.mod_lt _ (by omega)))) bb,?_⟩,Nat.mod_lt _ (by omega)⟩
      · try simp(maxSteps:=999999) (disch:=omega) only[go_sem,Nat.reduceBEq,reduceAdd]
      · dsimp only
        rw[←hg,Nat.gcd_comm m' n',Nat.gcd_rec n' m',Nat.gcd_comm]
def sgn (neg:Bool) (n d:Nat):Rat:=mkRat (if neg then -(n:Int) else n) d
theorem ov (neg:Bool) (d:Nat):sgn neg 0 d=0:=by cases neg<;>simp[sgn]
theorem BK {neg:Bool} {n d n' d':Nat} (hd:d≠0) (hd':d'≠0) (h:n*d'=n'*d):sgn neg n d=sgn neg n' d':=by
  unfold sgn
  rw[Rat.mkRat_eq_iff hd hd']
  have:(n:Int)*d'=n'*d:=by exact_mod_cast h
  cases neg<;>simp[this,Int.neg_mul]
theorem rf {neg:Bool} {n d:Nat} (hd:d≠0) (hc:Nat.gcd n d=1):(sgn neg n d).num=(if neg then -(n:Int) else n)∧(sgn neg n d).den=d:=by
  unfold sgn
  have hc':(if neg then -(n:Int) else (n:Int)).natAbs.Coprime d:=by cases neg<;>simpa using hc
  rw[←Rat.mk_eq_mkRat _ _ hd hc']
  exact⟨rfl,rfl⟩
theorem N32.sl {h:PH} {v:Value} {n:Nat} (r:N32 h v n):∃a l c,v=.slice a l c∧N32 h (.slice a l c) n:=by
  obtain⟨a,c,h1,h2⟩:=r;exact⟨a,_,c,h1,a,c,rfl,h2⟩
def Fr (h:PH) (v:Value) (x:Rat):Prop:=∃sn sd,v=.agg #[.bool (decide (x.num < 0)),sn,sd]∧N32 h sn x.num.natAbs∧N32 h sd x.den
theorem Fr.to {h h':PH} {v:Value} {x:Rat} (r:Fr h v x) [Le h h']:Fr h' v x:=let ⟨a,b,h1,h2,h3⟩:=r;⟨a,b,h1,h2.to,h3.to⟩
theorem Fr.of {h:PH} {neg:Bool} {n d:Nat} {sn sd:Value} {x:Rat} (hn:N32 h sn n) (hd:N32 h sd d) (h0:n≠0) (hd0:d≠0) (hc:Nat.gcd n d=1) (hx:x=sgn neg n d):Fr h (.agg #[.bool neg,sn,sd]) x:=by
  obtain⟨h1,h2⟩:=rf (neg:=neg) hd0 hc
  rw[←hx] at h1 h2
  refine⟨sn,sd,?_,?_,by rw[h2];exact hd⟩
  · have:decide (x.num < 0)=neg:=by rw[h1];cases neg<;>simp<;>omega
    rw[this]
  · have:x.num.natAbs=n:=by rw[h1];cases neg<;>simp
    rw[this];exact hn
theorem Fr.zero {h:PH} {sd:Value} (hd:N32 h sd 1):Fr h (.agg #[.bool false,.slice none 0 0,sd]) 0:=⟨.slice none 0 0,sd,by simp,by simpa using N32.zero h,hd⟩
theorem BZ (n:Nat):2^tw n∣n:=by
  by_cases h:n=0
  · subst h;exact Nat.dvd_zero _
  · obtain⟨m,hm⟩:=pz n h;exact⟨_,hm⟩
theorem yJ {n:Nat} (h:n≠0):tw n < bl n:=by
  rcases Nat.lt_or_ge (tw n) (bl n) with h' |h'
  · exact h'
  · have h1:=bl_le.1 h'
    have:=Nat.le_of_dvd (by omega) (BZ n)
    omega
theorem F8 {n k:Nat} (h:n≠0) (hk:tw n=k):n / 2^k % 2=1:=by
  obtain⟨m,hm⟩:=pz n h
  rw[hk] at hm
  have:n / 2^k=2*m+1:=by rw[hm];exact Nat.mul_div_cancel_left _ (Nat.pow_pos (by decide))
  omega
theorem red_two {n d k:Nat} (hn:n≠0) (hd:d≠0) (hk:k=min (tw n) (tw d)):n / 2^k≠0∧d / 2^k≠0∧n*(d / 2^k)=n / 2^k*d∧(n / 2^k % 2=1∨d / 2^k % 2=1):=by
  have h1:2^k∣n:=Nat.dvd_trans (Nat.pow_dvd_pow 2 (by omega)) (BZ n)
  have h2:2^k∣d:=Nat.dvd_trans (Nat.pow_dvd_pow 2 (by omega)) (BZ d)
  have hp:0 < 2^k:=Nat.pow_pos (by decide)
  obtain⟨a,ha⟩:=h1
  obtain⟨b,hb⟩:=h2
  have ea:n / 2^k=a:=by rw[ha];exact Nat.mul_div_cancel_left _ hp
  have eb:d / 2^k=b:=by rw[hb];exact Nat.mul_div_cancel_left _ hp
  refine⟨?_,?_,?_,?_⟩
  · rw[ea];rintro rfl;omega
  · rw[eb];rintro rfl;omega
  · rw[ea,eb];conv=>lhs;rw[ha]
    conv=>rhs;rw[hb]
    rw[Nat.mul_assoc,Nat.mul_left_comm]
  · rcases Nat.le_total (tw n) (tw d) with h |h
    · exact .inl (F8 hn (by omega))
    · exact .inr (F8 hd (by omega))
theorem red_pow {n d:Nat} (hd:d≠0) (ho:n % 2=1∨d % 2=1) (ht:tw d+1=bl d):Nat.gcd n d=1:=by
  obtain⟨m,hm⟩:=pz d hd
  have h1:=bl_le.1 (Nat.le_refl (bl d))
  rw[←ht,Nat.pow_succ] at h1
  have hm0:m=0:=by
    rcases Nat.eq_zero_or_pos m with h |h
    · exact h
    · have:2^tw d*3≤2^tw d*(2*m+1):=Nat.mul_le_mul_left _ (by omega)
      have hp:0 < 2^tw d:=Nat.pow_pos (by decide)
      omega
  subst hm0
  simp only[Nat.mul_zero,Nat.zero_add,Nat.mul_one] at hm
  rcases Nat.eq_zero_or_pos (tw d) with h |h
  · rw[h] at hm;rw[hm];simp
  · have hdv:d % 2=0:=by rw[hm,show tw d=(tw d - 1)+1 by omega,Nat.pow_succ];omega
    have hn:n % 2=1:=by omega
    rw[hm]
    refine Nat.Coprime.pow_right _ ?_
    rw[Nat.Coprime,Nat.gcd_comm,Nat.gcd_rec,hn];rfl
theorem HO {n d : Nat} (hn : n ≠ 0) (hd :d≠0):n / Nat.gcd n d≠0∧d / Nat.gcd n d≠0∧n*(d / Nat.gcd n d)=n / Nat.gcd n d*d∧Nat.gcd (n / Nat.gcd n d) (d / Nat.gcd n d)=1:=by
  have hg:0 < Nat.gcd n d:=Nat.gcd_pos_of_pos_left _ (by omega)
  obtain⟨a,ha⟩:=Nat.gcd_dvd_left n d
  obtain⟨b,hb⟩:=Nat.gcd_dvd_right n d
  refine⟨?_,?_,?_,Nat.gcd_div_gcd_div_gcd_of_pos_left (by omega)⟩
  · have:=Nat.div_pos (Nat.gcd_le_left d (by omega:0 < n)) hg;omega
  · have:=Nat.div_pos (Nat.gcd_le_right n (by omega:0 < d)) hg;omega
  · have ea : n / Nat.gcd n d = a := by conv=>lhs;lhs;rw[ha]
                                        exact Nat.mul_div_cancel_left _ hg
    have eb : d / Nat.gcd n d = b := by conv=>lhs;lhs;rw[hb]
                                        exact Nat.mul_div_cancel_left _ hg
    rw[ea,eb];conv=>lhs;lhs;rw[ha]
    conv=>rhs;rhs;rw[hb]
    rw[Nat.mul_assoc,Nat.mul_left_comm]
theorem bW {h0 h:PH} [Le h0 h] {neg:Bool} {v w:Value} {n d:Nat} (hv:N32 h0 v n) (hw:N32 h0 w d) (hd:d≠0) (bn:bl n≤2^39) (bd:bl d≤2^39):
    Spec mach 249 #[.bool neg,v,w] h (fun v h'=>Fr h' v (sgn neg n d)) NP:=by
  obtain⟨va,vl,vc,rfl,hv⟩:=hv.sl
  obtain⟨wa,wl,wc,rfl,hw⟩:=hw.sl
  refine Spec.enter (args:=[_,_,_]) (n:=54) Tryz.func249 rfl (by kernel_rfl) rfl (by simp) [.cell 6 66] rfl (fun C _=>?_)
  by_cases hn:n=0
  · subst hn
    rw[ov]
    repeat (first |(refine wo rfl (fun k hk=>?_);simp(disch:=omega) only[go_sem,Nat.reduceBEq,reduceAdd];apply hk;clear hk k) |refine wkt rfl ?_ |refine wk0 ?_ |refine rg rfl rfl (fun K hK=>?_) |((first |refine ae ?_ |refine ac ?_);simp(disch:=decide) only[qs,qb,if_true,if_false,reduceIte]) |refine ah rfl (fun K hK=>?_) |refine ct rfl ?_ |((try simp(disch:=omega) only[go_sem,Nat.reduceBEq,reduceAdd]);(first |apply hK |(clear hK;apply hK) |(clear hK;clear hK;apply hK));clear hK;(try clear K);(try dsimp only[ag,qs,qb])))
    refine cN rfl rfl rfl rfl (by exact bU hv) ?_;rintro v1 h1 s1 hz;obtain rfl:v1=.bool true:=hz
    repeat (first |(refine wo rfl (fun k hk=>?_);simp(disch:=omega) only[go_sem,Nat.reduceBEq,reduceAdd];apply hk;clear hk k) |refine wkt rfl ?_ |refine wk0 ?_ |refine rg rfl rfl (fun K hK=>?_) |((first |refine ae ?_ |refine ac ?_);simp(disch:=decide) only[qs,qb,if_true,if_false,reduceIte]) |refine ah rfl (fun K hK=>?_) |refine ct rfl ?_ |((try simp(disch:=omega) only[go_sem,Nat.reduceBEq,reduceAdd]);(first |apply hK |(clear hK;apply hK) |(clear hK;clear hK;apply hK));clear hK;(try clear K);(try dsimp only[ag,qs,qb])))
    refine cN rfl rfl rfl rfl (by exact aw (n:=1) (by decide)) ?_;rintro v2 h2 _ h2';obtain⟨v2,v2_l,v2_c,rfl,h2'⟩:=h2'.sl;(repeat (first |(refine wo rfl (fun k hk=>?_);simp(disch:=omega) only[go_sem,Nat.reduceBEq,reduceAdd];apply hk;clear hk k) |refine wkt rfl ?_));(try refine wk0 ?_)
    (try (simp(disch:=omega) only[go_sem,Nat.reduceBEq,reduceAdd]));apply hK;clear hK;(try clear K);(try dsimp only[ag,qs])
    refine ai ?_;simp(disch:=omega) only[go_sem,Nat.reduceBEq,reduceAdd]
    exact Fr.zero h2'
  · obtain⟨e,he⟩:∃e,min (tw n) (tw d)=e:=⟨_,rfl⟩
    obtain⟨n1,hn1⟩:∃x,n / 2^e=x:=⟨_,rfl⟩
    obtain⟨d1,hd1⟩:∃x,d / 2^e=x:=⟨_,rfl⟩
    have hr:=red_two hn hd he.symm
    rw[hn1,hd1] at hr
    obtain⟨hn1',hd1',hnd,hodd⟩:=hr
    have hk1:=yJ hn
    have hk2:=yJ hd
    have hk3:=yJ hd1'
    have hmin:(if ((tw d:Nat):Int) < ((tw n:Nat):Int) then ((tw d:Nat):Int) else ((tw n:Nat):Int))=(e:Nat):=by split<;>omega
    have b1:bl n1≤2^39:=Nat.le_trans (aR (by rw[←hn1];exact Nat.div_le_self _ _)) bn
    have b2:bl d1≤2^39:=Nat.le_trans (aR (by rw[←hd1];exact Nat.div_le_self _ _)) bd
    have hsg:=BK (neg:=neg) hd hd1' hnd
    repeat (first |(refine wo rfl (fun k hk=>?_);simp(disch:=omega) only[go_sem,Nat.reduceBEq,reduceAdd];apply hk;clear hk k) |refine wkt rfl ?_ |refine wk0 ?_ |refine rg rfl rfl (fun K hK=>?_) |((first |refine ae ?_ |refine ac ?_);simp(disch:=decide) only[qs,qb,if_true,if_false,reduceIte]) |refine ah rfl (fun K hK=>?_) |refine ct rfl ?_ |((try simp(disch:=omega) only[go_sem,Nat.reduceBEq,reduceAdd]);(first |apply hK |(clear hK;apply hK) |(clear hK;clear hK;apply hK));clear hK;(try clear K);(try dsimp only[ag,qs,qb])))
    refine cN rfl rfl rfl rfl (by exact bU hv) ?_;rintro v1 h1 s1 rfl
    repeat (first |(refine wo rfl (fun k hk=>?_);simp(disch:=omega) only[go_sem,Nat.reduceBEq,reduceAdd];apply hk;clear hk k) |refine wkt rfl ?_ |refine wk0 ?_ |refine rg rfl rfl (fun K hK=>?_) |((first |refine ae ?_ |refine ac ?_);simp(disch:=decide) only[qs,qb,if_true,if_false,reduceIte]) |refine ah rfl (fun K hK=>?_) |refine ct rfl ?_ |((try simp(disch:=omega) only[go_sem,Nat.reduceBEq,reduceAdd]);(first |apply hK |(clear hK;apply hK) |(clear hK;clear hK;apply hK));clear hK;(try clear K);(try dsimp only[ag,qs,qb])))
    refine cN rfl rfl rfl rfl (by exact qC hv) ?_;rintro v2 h2 s2 rfl;(repeat (first |(refine wo rfl (fun k hk=>?_);simp(disch:=omega) only[go_sem,Nat.reduceBEq,reduceAdd];apply hk;clear hk k) |refine wkt rfl ?_));(try refine wk0 ?_)
    refine cN rfl rfl rfl rfl (by exact qC hw) ?_;rintro v3 h3 s3 rfl;(repeat (first |(refine wo rfl (fun k hk=>?_);simp(disch:=omega) only[go_sem,Nat.reduceBEq,reduceAdd];apply hk;clear hk k) |refine wkt rfl ?_));(try refine wk0 ?_)
    simp only[hmin]
    (try (simp(disch:=omega) only[go_sem,Nat.reduceBEq,reduceAdd]));apply hK;clear hK;(try clear K);(try dsimp only[ag,qs])
    have rest:∀(v w:Value) (S:AS) (h:PH),N32 h v n1→N32 h w d1→S.le ⟨[(0,.v (.bool neg)),(1,.v v),(2,.v w),(6,.p 0 0)],[[.bool false,.slice none 0 0,.slice none 0 0]]⟩→K S h:=by
      clear hv hw
      intro v w S h hv hw hS
      refine hK _ _ (fq _ hS ?_);clear hK K
      obtain⟨va,vl,vc,rfl,hv⟩:=hv.sl
      obtain⟨wa,wl,wc,rfl,hw⟩:=hw.sl
      refine oJ (fun K hK=>?_)
      refine rg rfl rfl (fun K hK=>?_);(repeat (first |(refine wo rfl (fun k hk=>?_);simp(disch:=omega) only[go_sem,Nat.reduceBEq,reduceAdd];apply hk;clear hk k) |refine wkt rfl ?_));(try refine wk0 ?_)
      refine cN rfl rfl rfl rfl (by exact qC hw) ?_;rintro v2 h2 s2 rfl;(repeat (first |(refine wo rfl (fun k hk=>?_);simp(disch:=omega) only[go_sem,Nat.reduceBEq,reduceAdd];apply hk;clear hk k) |refine wkt rfl ?_));(try refine wk0 ?_)
      refine cN rfl rfl rfl rfl (by exact mG hw) ?_;rintro v3 h3 s3 rfl;(repeat (first |(refine wo rfl (fun k hk=>?_);simp(disch:=omega) only[go_sem,Nat.reduceBEq,reduceAdd];apply hk;clear hk k) |refine wkt rfl ?_));(try refine wk0 ?_)
      by_cases hp:tw d1+1=bl d1
      · repeat (first |(refine wo rfl (fun k hk=>?_);simp(disch:=omega) only[go_sem,Nat.reduceBEq,reduceAdd];apply hk;clear hk k) |refine wkt rfl ?_ |refine wk0 ?_ |refine rg rfl rfl (fun K hK=>?_) |((first |refine ae ?_ |refine ac ?_);simp(disch:=decide) only[qs,qb,if_true,if_false,reduceIte]) |refine ah rfl (fun K hK=>?_) |refine ct rfl ?_ |((try simp(disch:=omega) only[go_sem,Nat.reduceBEq,reduceAdd]);(first |apply hK |(clear hK;apply hK) |(clear hK;clear hK;apply hK));clear hK;(try clear K);(try dsimp only[ag,qs,qb])))
        refine ai ?_;simp(disch:=omega) only[go_sem,Nat.reduceBEq,reduceAdd]
        exact Fr.of hv.to hw.to hn1' hd1' (red_pow hd1' hodd hp) hsg
      · have hg:=HO hn1' hd1'
        obtain⟨hg1,hg2,hg3,hg4⟩:=hg
        have hg0:0 < Nat.gcd n1 d1:=Nat.gcd_pos_of_pos_left _ (by omega)
        have b3:bl (Nat.gcd n1 d1)≤2^39:=Nat.le_trans (aR (Nat.gcd_le_left d1 (by omega))) b1
        have hsg2:=BK (neg:=neg) hd1' hg2 hg3
        repeat (first |(refine wo rfl (fun k hk=>?_);simp(disch:=omega) only[go_sem,Nat.reduceBEq,reduceAdd];apply hk;clear hk k) |refine wkt rfl ?_ |refine wk0 ?_ |refine rg rfl rfl (fun K hK=>?_) |((first |refine ae ?_ |refine ac ?_);simp(disch:=decide) only[qs,qb,if_true,if_false,reduceIte]) |refine ah rfl (fun K hK=>?_) |refine ct rfl ?_ |((try simp(disch:=omega) only[go_sem,Nat.reduceBEq,reduceAdd]);(first |apply hK |(clear hK;apply hK) |(clear hK;clear hK;apply hK));clear hK;(try clear K);(try dsimp only[ag,qs,qb])))
        refine cN rfl rfl rfl rfl (by exact GCD_spec hv hw b1 b2) ?_;rintro v4 h4 _ hg';obtain⟨v4,v4_l,v4_c,rfl,hg'⟩:=hg'.sl;(repeat (first |(refine wo rfl (fun k hk=>?_);simp(disch:=omega) only[go_sem,Nat.reduceBEq,reduceAdd];apply hk;clear hk k) |refine wkt rfl ?_));(try refine wk0 ?_)
        (try (simp(disch:=omega) only[go_sem,Nat.reduceBEq,reduceAdd]));apply hK;clear hK;(try clear K);(try dsimp only[ag,qs])
        refine rg rfl rfl (fun K hK=>?_);(repeat (first |(refine wo rfl (fun k hk=>?_);simp(disch:=omega) only[go_sem,Nat.reduceBEq,reduceAdd];apply hk;clear hk k) |refine wkt rfl ?_));(try refine wk0 ?_)
        refine cN rfl rfl rfl rfl (by exact wY hg') ?_;rintro v5 h5 s5 rfl;(repeat (first |(refine wo rfl (fun k hk=>?_);simp(disch:=omega) only[go_sem,Nat.reduceBEq,reduceAdd];apply hk;clear hk k) |refine wkt rfl ?_));(try refine wk0 ?_)
        by_cases h1:Nat.gcd n1 d1=1
        · repeat (first |(refine wo rfl (fun k hk=>?_);simp(disch:=omega) only[go_sem,Nat.reduceBEq,reduceAdd];apply hk;clear hk k) |refine wkt rfl ?_ |refine wk0 ?_ |refine rg rfl rfl (fun K hK=>?_) |((first |refine ae ?_ |refine ac ?_);simp(disch:=decide) only[qs,qb,if_true,if_false,reduceIte]) |refine ah rfl (fun K hK=>?_) |refine ct rfl ?_ |((try simp(disch:=omega) only[go_sem,Nat.reduceBEq,reduceAdd]);(first |apply hK |(clear hK;apply hK) |(clear hK;clear hK;apply hK));clear hK;(try clear K);(try dsimp only[ag,qs,qb])))
          refine ai ?_;simp(disch:=omega) only[go_sem,Nat.reduceBEq,reduceAdd]
          exact Fr.of hv.to hw.to hn1' hd1' h1 hsg
        · repeat (first |(refine wo rfl (fun k hk=>?_);simp(disch:=omega) only[go_sem,Nat.reduceBEq,reduceAdd];apply hk;clear hk k) |refine wkt rfl ?_ |refine wk0 ?_ |refine rg rfl rfl (fun K hK=>?_) |((first |refine ae ?_ |refine ac ?_);simp(disch:=decide) only[qs,qb,if_true,if_false,reduceIte]) |refine ah rfl (fun K hK=>?_) |refine ct rfl ?_ |((try simp(disch:=omega) only[go_sem,Nat.reduceBEq,reduceAdd]);(first |apply hK |(clear hK;apply hK) |(clear hK;clear hK;apply hK));clear hK;(try clear K);(try dsimp only[ag,qs,qb])))
          refine cN rfl rfl rfl rfl (by exact gU (hv.to (h':=h4)) hg' (by omega) b1 b3) ?_;rintro v6 h6 s6 ⟨q1,r1,rfl,hq1,hr1⟩;(repeat (first |(refine wo rfl (fun k hk=>?_);simp(disch:=omega) only[go_sem,Nat.reduceBEq,reduceAdd];apply hk;clear hk k) |refine wkt rfl ?_));(try refine wk0 ?_)
          obtain⟨qa,ql,qc,rfl,hq1⟩:=hq1.sl
          (try (simp(disch:=omega) only[go_sem,Nat.reduceBEq,reduceAdd]));apply hK;clear hK;(try clear K);(try dsimp only[ag,qs])
          refine rg rfl rfl (fun K hK=>?_);(repeat (first |(refine wo rfl (fun k hk=>?_);simp(disch:=omega) only[go_sem,Nat.reduceBEq,reduceAdd];apply hk;clear hk k) |refine wkt rfl ?_));(try refine wk0 ?_)
          refine cN rfl rfl rfl rfl (by exact gU (hw.to (h':=h4)) hg' (by omega) b2 b3) ?_;rintro v7 h7 s7 ⟨q2,r2,rfl,hq2,hr2⟩;(repeat (first |(refine wo rfl (fun k hk=>?_);simp(disch:=omega) only[go_sem,Nat.reduceBEq,reduceAdd];apply hk;clear hk k) |refine wkt rfl ?_));(try refine wk0 ?_)
          obtain⟨qa',ql',qc',rfl,hq2⟩:=hq2.sl
          repeat (first |(refine wo rfl (fun k hk=>?_);simp(disch:=omega) only[go_sem,Nat.reduceBEq,reduceAdd];apply hk;clear hk k) |refine wkt rfl ?_ |refine wk0 ?_ |refine rg rfl rfl (fun K hK=>?_) |((first |refine ae ?_ |refine ac ?_);simp(disch:=decide) only[qs,qb,if_true,if_false,reduceIte]) |refine ah rfl (fun K hK=>?_) |refine ct rfl ?_ |((try simp(disch:=omega) only[go_sem,Nat.reduceBEq,reduceAdd]);(first |apply hK |(clear hK;apply hK) |(clear hK;clear hK;apply hK));clear hK;(try clear K);(try dsimp only[ag,qs,qb])))
          refine ai ?_;simp(disch:=omega) only[go_sem,Nat.reduceBEq,reduceAdd]
          exact Fr.of hq1.to hq2.to hg1 hg2 hg4 (hsg.trans hsg2)
    repeat (first |(refine rg rfl rfl (fun K hK=>?_);(repeat (first |(refine wo rfl (fun k hk=>?_);simp(disch:=omega) only[go_sem,Nat.reduceBEq,reduceAdd];apply hk;clear hk k) |refine wkt rfl ?_));(try refine wk0 ?_);apply hK;clear hK K;(try dsimp only[ag,qs,qb])) |((first |refine ae ?_ |refine ac ?_);simp(disch:=decide) only[qs,qb,if_true,if_false,reduceIte]) |refine ah rfl (fun K hK=>?_) |refine ct rfl ?_ |((first |refine hK _ _ ?_ |(clear hK;refine hK _ _ ?_) |(clear hK;clear hK;refine hK _ _ ?_));clear hK;(try clear K)))
    refine mP rfl (fun ht=>?_) (fun ht=>?_)
    · have:=of_decide_eq_true ht
      refine rg rfl rfl (fun K hK=>?_);(repeat (first |(refine wo rfl (fun k hk=>?_);simp(disch:=omega) only[go_sem,Nat.reduceBEq,reduceAdd];apply hk;clear hk k) |refine wkt rfl ?_));(try refine wk0 ?_)
      refine cN rfl rfl rfl rfl (by exact gD (n:=e) hv (by omega) (by omega)) ?_;rintro v4 h4 _ hv4;obtain⟨v4,v4_l,v4_c,rfl,hv4⟩:=hv4.sl;(repeat (first |(refine wo rfl (fun k hk=>?_);simp(disch:=omega) only[go_sem,Nat.reduceBEq,reduceAdd];apply hk;clear hk k) |refine wkt rfl ?_));(try refine wk0 ?_)
      refine cN rfl rfl rfl rfl (by exact gD (n:=e) hw (by omega) (by omega)) ?_;rintro v5 h5 _ hw5;obtain⟨v5,v5_l,v5_c,rfl,hw5⟩:=hw5.sl;(repeat (first |(refine wo rfl (fun k hk=>?_);simp(disch:=omega) only[go_sem,Nat.reduceBEq,reduceAdd];apply hk;clear hk k) |refine wkt rfl ?_));(try refine wk0 ?_)
      (try (simp(disch:=omega) only[go_sem,Nat.reduceBEq,reduceAdd]));apply hK;clear hK;(try clear K);(try dsimp only[ag,qs])
      rw[hn1] at hv4
      rw[hd1] at hw5
      refine rest _ _ _ _ hv4.to hw5 ?_
      simp(disch:=omega) only[go_sem,Nat.reduceBEq,reduceAdd]
    · have:=of_decide_eq_false ht
      have h0:e=0:=by omega
      have e1:n1=n:=by rw[←hn1,h0];simp
      have e2:d1=d:=by rw[←hd1,h0];simp
      refine ac ?_;simp only[qs,qb,if_true,if_false,reduceIte]
      refine rest _ _ _ _ (by rw[e1];exact hv.to) (by rw[e2];exact hw.to) ?_
      simp(disch:=omega) only[go_sem,Nat.reduceBEq,reduceAdd]
theorem aG (m n:Nat):bl (m*n)≤bl m+bl n:=by
  rw[bl_le,Nat.pow_add]
  rcases Nat.eq_zero_or_pos m with h |h
  · subst h;rw[Nat.zero_mul];exact Nat.mul_pos (Nat.pow_pos (by decide)) (Nat.pow_pos (by decide))
  · exact Nat.mul_lt_mul_of_lt_of_le (bl_le.1 (Nat.le_refl _)) (Nat.le_of_lt (bl_le.1 (Nat.le_refl _))) (Nat.pow_pos (by decide))
theorem cY (m n:Nat):bl (m+n)≤max (bl m) (bl n)+1:=by
  rw[bl_le,Nat.pow_succ]
  have h1:=bl_le.1 (Nat.le_max_left (bl m) (bl n))
  have h2:=bl_le.1 (Nat.le_max_right (bl m) (bl n))
  omega
theorem cu (m k:Nat):bl (m*2^k)≤bl m+k:=by
  rw[bl_le,Nat.pow_add]
  exact Nat.mul_lt_mul_of_pos_right (bl_le.1 (Nat.le_refl _)) (Nat.pow_pos (by decide))
theorem aZ (m k:Nat):bl (m / k)≤bl m:=aR (Nat.div_le_self _ _)
theorem fI:bl 1=1:=by decide
theorem bC (k:Nat):bl (2^k)≤k+1:=by
  have:=cu 1 k
  rw[Nat.one_mul,fI] at this;omega
def sz (x:Rat):Nat:=max (bl x.num.natAbs) (bl x.den)
theorem bG (x:Rat):bl x.num.natAbs≤sz x:=Nat.le_max_left _ _
theorem bB (x:Rat):bl x.den≤sz x:=Nat.le_max_right _ _
theorem dg (neg:Bool) (n:Nat) {d:Nat} (hd:d≠0):sz (sgn neg n d)≤max (bl n) (bl d):=by
  have h1:(sgn neg n d).num.natAbs≤n:=by
    unfold sgn
    rw[Rat.num_mkRat,if_neg hd]
    refine Nat.le_trans (Int.natAbs_ediv_le_natAbs _ _) ?_
    cases neg<;>simp
  have h2:(sgn neg n d).den≤d:=by
    unfold sgn
    rw[Rat.den_mkRat,if_neg hd]
    exact Nat.div_le_self _ _
  have h3:=aR h1
  have h4:=aR h2
  unfold sz
  omega
theorem DW (x:Rat):sgn (decide (x.num < 0)) x.num.natAbs x.den=x:=by
  unfold sgn
  have:(if decide (x.num < 0)=true then -(x.num.natAbs:Int) else (x.num.natAbs:Int))=x.num:=by
    by_cases h:x.num < 0
    · simp only[h,decide_true,if_true];omega
    · simp only[h,decide_false,Bool.false_eq_true,if_false];omega
  rw[this,Rat.mkRat_self]
theorem DV {x y:Rat} {neg:Bool} (hx:decide (x.num < 0)=neg) (hy:decide (y.num < 0)=neg):sgn neg (x.num.natAbs*y.den+y.num.natAbs*x.den) (x.den*y.den)=x+y:=by
  rw[Rat.add_def']
  unfold sgn
  congr 1
  generalize x.num=a at*
  generalize y.num=b at*
  cases neg with
  | true=>
    simp only[decide_eq_true_eq] at hx hy
    obtain⟨m,rfl⟩:∃m:Nat,a= -(m:Int):=⟨a.natAbs,by omega⟩
    obtain⟨n,rfl⟩:∃n:Nat,b= -(n:Int):=⟨b.natAbs,by omega⟩
    simp[Int.neg_mul,Int.neg_add]
  | false=>
    simp only[decide_eq_false_iff_not] at hx hy
    obtain⟨m,rfl⟩:∃m:Nat,a=(m:Int):=⟨a.natAbs,by omega⟩
    obtain⟨n,rfl⟩:∃n:Nat,b=(n:Int):=⟨b.natAbs,by omega⟩
    simp
theorem tP {x y:Rat} {neg:Bool} (hx:decide (x.num < 0)=neg) (hy:decide (y.num < 0)=!neg) (hle:y.num.natAbs*x.den≤x.num.natAbs*y.den):sgn neg (x.num.natAbs*y.den - y.num.natAbs*x.den) (x.den*y.den)=x+y:=by
  rw[Rat.add_def']
  unfold sgn
  congr 1
  generalize x.num=a at*
  generalize y.num=b at*
  cases neg with
  | true=>
    simp only[decide_eq_true_eq,Bool.not_true,decide_eq_false_iff_not] at hx hy
    obtain⟨m,rfl⟩:∃m:Nat,a= -(m:Int):=⟨a.natAbs,by omega⟩
    obtain⟨n,rfl⟩:∃n:Nat,b=(n:Int):=⟨b.natAbs,by omega⟩
    simp only[Int.natAbs_neg,Int.natAbs_natCast] at hle ⊢
    rw[if_pos trivial,Int.ofNat_sub hle]
    simp[Int.neg_mul];omega
  | false=>
    simp only[decide_eq_true_eq,Bool.not_false,decide_eq_false_iff_not] at hx hy
    obtain⟨m,rfl⟩:∃m:Nat,a=(m:Int):=⟨a.natAbs,by omega⟩
    obtain⟨n,rfl⟩:∃n:Nat,b= -(n:Int):=⟨b.natAbs,by omega⟩
    simp only[Int.natAbs_neg,Int.natAbs_natCast] at hle ⊢
    rw[if_neg (by simp),Int.ofNat_sub hle]
    simp[Int.neg_mul];omega
theorem qZ (x y:Rat):sgn (!(decide (x.num < 0) == decide (y.num < 0))) (x.num.natAbs*y.num.natAbs) (x.den*y.den)=x*y:=by
  rw[Rat.mul_def']
  unfold sgn
  congr 1
  generalize x.num=a at*
  generalize y.num=b at*
  rcases Int.lt_or_le a 0 with h |h<;>rcases Int.lt_or_le b 0 with h' |h'
  · obtain⟨m,rfl⟩:∃m:Nat,a= -(m:Int):=⟨a.natAbs,by omega⟩
    obtain⟨n,rfl⟩:∃n:Nat,b= -(n:Int):=⟨b.natAbs,by omega⟩
    rw[decide_eq_true h,decide_eq_true h'];simp[Int.neg_mul,Int.mul_neg]
  · obtain⟨m,rfl⟩:∃m:Nat,a= -(m:Int):=⟨a.natAbs,by omega⟩
    obtain⟨n,rfl⟩:∃n:Nat,b=(n:Int):=⟨b.natAbs,by omega⟩
    rw[decide_eq_true h,decide_eq_false (Int.not_lt.2 h')];simp[Int.neg_mul]
  · obtain⟨m,rfl⟩:∃m:Nat,a=(m:Int):=⟨a.natAbs,by omega⟩
    obtain⟨n,rfl⟩:∃n:Nat,b= -(n:Int):=⟨b.natAbs,by omega⟩
    rw[decide_eq_true h',decide_eq_false (Int.not_lt.2 h)];simp[Int.mul_neg]
  · obtain⟨m,rfl⟩:∃m:Nat,a=(m:Int):=⟨a.natAbs,by omega⟩
    obtain⟨n,rfl⟩:∃n:Nat,b=(n:Int):=⟨b.natAbs,by omega⟩
    rw[decide_eq_false (Int.not_lt.2 h),decide_eq_false (Int.not_lt.2 h')];simp
theorem dA (x y:Rat):sz (x+y)≤sz x+sz y+1:=by
  have hx:=x.den_nz
  have hy:=y.den_nz
  have h1:x+y=sgn (decide (x.num*y.den+y.num*x.den < 0)) (x.num*y.den+y.num*x.den).natAbs (x.den*y.den):=by
    rw[Rat.add_def']
    unfold sgn
    congr 1
    by_cases h:x.num*y.den+y.num*x.den < 0
    · simp only[h,decide_true,if_true];omega
    · simp only[h,decide_false,Bool.false_eq_true,if_false];omega
  rw[h1]
  refine Nat.le_trans (dg _ _ (Nat.mul_ne_zero hx hy)) ?_
  have h2:(x.num*y.den+y.num*x.den).natAbs≤x.num.natAbs*y.den+y.num.natAbs*x.den:=by
    refine Nat.le_trans (Int.natAbs_add_le _ _) ?_
    rw[Int.natAbs_mul,Int.natAbs_mul,Int.natAbs_natCast,Int.natAbs_natCast]
    omega
  have h3:=aR h2
  have h4:=cY (x.num.natAbs*y.den) (y.num.natAbs*x.den)
  have h5:=aG x.num.natAbs y.den
  have h6:=aG y.num.natAbs x.den
  have h7:=aG x.den y.den
  have:=bG x;have:=bG y;have:=bB x;have:=bB y
  omega
theorem bV (x y:Rat):sz (x*y)≤sz x+sz y:=by
  have hx:=x.den_nz
  have hy:=y.den_nz
  rw[←qZ]
  refine Nat.le_trans (dg _ _ (Nat.mul_ne_zero hx hy)) ?_
  have h5:=aG x.num.natAbs y.num.natAbs
  have h7:=aG x.den y.den
  have:=bG x;have:=bG y;have:=bB x;have:=bB y
  omega
theorem cz (x:Rat):sz (-x)=sz x:=by unfold sz;simp
theorem iQ (x:Rat):sz x⁻¹≤sz x:=by
  unfold sz
  rw[Rat.num_inv,Rat.den_inv,Int.natAbs_mul,Int.natAbs_natCast]
  by_cases h:x.num=0
  · have h1:bl 1≤bl x.den:=aR (Nat.pos_of_ne_zero x.den_nz)
    rw[h,if_pos rfl]
    simp only[Int.sign_zero,Int.natAbs_zero,Nat.zero_mul]
    have:bl 0=0:=by decide
    omega
  · rw[if_neg h,Int.natAbs_sign_of_ne_zero h,Nat.one_mul];omega
def gup (x:Rat) (p:Nat):Rat:=((x*2^p).ceil:Rat) / 2^p
def gdown (x:Rat) (p:Nat):Rat:=((x*2^p).floor:Rat) / 2^p
theorem B4 (p:Nat):((2^p:Nat):Rat)=2^p:=by simp
theorem ol (n:Int) (p:Nat):mkRat n (2^p)=(n:Rat) / 2^p:=by
  rw[Rat.mkRat_eq_div,B4]
theorem tp:(1:Rat)⁻¹=1:=Rat.inv_eq_of_mul_eq_one (by simp)
theorem scaled (x:Rat) (p:Nat):x*2^p=mkRat (x.num*2^p) x.den:=by
  conv=>lhs;rw[←Rat.mkRat_self x]
  rw[show(2:Rat)^p=mkRat (2^p) 1 from by rw[Rat.mkRat_eq_div,Rat.div_def];simp[tp],Rat.mkRat_mul_mkRat,Nat.mul_one]
theorem pW (n:Int) {d:Nat} (hd:d≠0):(mkRat n d).floor=n / d:=by
  apply Int.le_antisymm
  · have h:((mkRat n d).floor:Rat)≤mkRat n d:=Rat.floor_le _
    have hp:(0:Rat) < d:=Rat.natCast_pos.2 (Nat.pos_of_ne_zero hd)
    rw[Rat.mkRat_eq_div] at h
    have h2:=mlr h (llt hp)
    rw[Rat.div_mul_cancel (Rat.ne_of_gt hp),←Rat.mkRat_eq_div] at h2
    have h3:(mkRat n d).floor*d≤n:=by exact_mod_cast h2
    exact(Int.le_ediv_iff_mul_le (by omega)).2 h3
  · rw[Rat.le_floor_iff,Rat.mkRat_eq_div]
    have hp:(0:Rat) < d:=Rat.natCast_pos.2 (Nat.pos_of_ne_zero hd)
    refine lmm ?_ hp
    rw[Rat.div_mul_cancel (Rat.ne_of_gt hp)]
    have h3:n / d*d≤n:=Int.ediv_mul_le _ (by omega)
    exact_mod_cast h3
theorem xH (n:Int) {d:Nat} (hd:d≠0):(mkRat n d).ceil= -(-n / d):=by
  rw[Rat.ceil_eq_neg_floor_neg,Rat.neg_mkRat,pW _ hd]
theorem Fr.sl {h:PH} {v:Value} {x:Rat} (r:Fr h v x):∃na nl nc da dl dc,v=.agg #[.bool (decide (x.num < 0)),.slice na nl nc,.slice da dl dc]∧N32 h (.slice na nl nc) x.num.natAbs∧N32 h (.slice da dl dc) x.den:=by
  obtain⟨sn,sd,rfl,h2,h3⟩:=r
  obtain⟨na,nl,nc,rfl,h2⟩:=h2.sl
  obtain⟨da,dl,dc,rfl,h3⟩:=h3.sl
  exact⟨_,_,_,_,_,_,rfl,h2,h3⟩
theorem Fr.sa {h:PH} {v:Value} {x:Rat} (r:Fr h v x):∃b na nl nc da dl dc,v=.agg #[.bool b,.slice na nl nc,.slice da dl dc]∧Fr h (.agg #[.bool b,.slice na nl nc,.slice da dl dc]) x:=by
  obtain⟨_,_,_,_,_,_,rfl,_⟩:=r.sl
  exact⟨_,_,_,_,_,_,_,rfl,r⟩
structure Jk (h:PH) (neg:Bool) (sn sd:Value) (n d:Nat):Prop where
  num:N32 h sn n
  den:N32 h sd d
theorem Jk.to {h h':PH} {neg:Bool} {sn sd:Value} {n d:Nat} (r:Jk h neg sn sd n d) [Le h h']:Jk h' neg sn sd n d:=⟨r.num.to,r.den.to⟩
theorem xt {n k:Nat}:(W 4294967296 n).length≤k↔bl n≤32*k:=by
  rw[bl_le,B_pow]
  refine⟨fun h=>?_,fun h=>cV (by decide) h⟩
  exact Nat.lt_of_lt_of_le (cW (by decide) n) (Nat.pow_le_pow_right (by decide) h)
theorem o7 {h0 h:PH} [Le h0 h] {neg:Bool} {sn sd:Value} {n d:Nat} (hj:Jk h0 neg sn sd n d):
    Spec mach 126 #[.agg #[.bool neg,sn,sd]] h (fun v _=>v=.agg #[.bool (!neg && !decide (n=0)),sn,sd]) NP:=by
  obtain⟨hn,hd⟩:=hj
  obtain⟨na,nl,nc,rfl,hn⟩:=hn.sl
  obtain⟨da,dl,dc,rfl,hd⟩:=hd.sl
  refine Spec.go [] Tryz.func126 rfl rfl (by kernel_rfl) fun C _=>?_
  try simp(maxSteps:=999999) (disch:=omega) only[go_sem,Nat.reduceBEq,reduceAdd]
  cases neg with
  | true=>
    try simp(maxSteps:=999999) (disch:=omega) only[go_sem,Nat.reduceBEq,reduceAdd]
    all_goals rfl
  | false=>
    try simp(maxSteps:=999999) (disch:=omega) only[go_sem,Nat.reduceBEq,reduceAdd]
    refine caN (by exact bU hn) ?_;rintro v1 h1 s1 rfl
    try simp(maxSteps:=999999) (disch:=omega) only[go_sem,Nat.reduceBEq,reduceAdd]
    all_goals rfl
theorem Fits_raw {h0 h:PH} [Le h0 h] {neg:Bool} {sn sd:Value} {n d:Nat} (hj:Jk h0 neg sn sd n d):
    Spec mach 250 #[.agg #[.bool neg,sn,sd]] h (fun v _=>v=.bool (decide (max (bl n) (bl d)≤2048))) NP:=by
  obtain⟨hn,hd⟩:=hj
  obtain⟨na,nc,rfl,hn⟩:=hn
  obtain⟨da,dc,rfl,hd⟩:=hd
  have hs:=hn.small
  have hs':=hd.small
  have e1:=xt (n:=n) (k:=64)
  have e2:=xt (n:=d) (k:=64)
  refine Spec.go [] Tryz.func250 rfl rfl (by kernel_rfl) fun C _=>?_
  try simp(maxSteps:=999999) (disch:=omega) only[go_sem,Nat.reduceBEq,reduceAdd]
  by_cases h1:(W 4294967296 n).length≤64
  · by_cases h2:(W 4294967296 d).length≤64
    · try simp(maxSteps:=999999) (disch:=omega) only[go_sem,Nat.reduceBEq,reduceAdd]
      all_goals (refine bv ?_;simp<;>omega)
    · try simp(maxSteps:=999999) (disch:=omega) only[go_sem,Nat.reduceBEq,reduceAdd]
      all_goals (refine bv ?_;simp<;>omega)
  · try simp(maxSteps:=999999) (disch:=omega) only[go_sem,Nat.reduceBEq,reduceAdd]
    all_goals (refine bv ?_;simp<;>omega)
theorem pP {h0 h:PH} [Le h0 h] {neg:Bool} {sn sd:Value} {n d:Nat} (hj:Jk h0 neg sn sd n d):
    Spec mach 199 #[.agg #[.bool neg,sn,sd]] h (fun v _=>v=.int .i64 (if n=0 then 0 else if neg then -1 else 1)) NP:=by
  obtain⟨hn,hd⟩:=hj
  obtain⟨na,nl,nc,rfl,hn⟩:=hn.sl
  obtain⟨da,dl,dc,rfl,hd⟩:=hd.sl
  refine Spec.go [] Tryz.func199 rfl rfl (by kernel_rfl) fun C _=>?_
  try simp(maxSteps:=999999) (disch:=omega) only[go_sem,Nat.reduceBEq,reduceAdd]
  by_cases h0:n=0
  · try simp(maxSteps:=999999) (disch:=omega) only[go_sem,Nat.reduceBEq,reduceAdd]
    refine caN (by exact bU hn) ?_;rintro v1 h1 s1 rfl
    try simp(maxSteps:=999999) (disch:=omega) only[go_sem,Nat.reduceBEq,reduceAdd]
    simp[h0]
  · cases neg with
    | true=>
      try simp(maxSteps:=999999) (disch:=omega) only[go_sem,Nat.reduceBEq,reduceAdd]
      refine caN (by exact bU hn) ?_;rintro v1 h1 s1 rfl
      try simp(maxSteps:=999999) (disch:=omega) only[go_sem,Nat.reduceBEq,reduceAdd]
      simp[h0]
    | false=>
      try simp(maxSteps:=999999) (disch:=omega) only[go_sem,Nat.reduceBEq,reduceAdd]
      refine caN (by exact bU hn) ?_;rintro v1 h1 s1 rfl
      try simp(maxSteps:=999999) (disch:=omega) only[go_sem,Nat.reduceBEq,reduceAdd]
      simp[h0]
theorem Fr.jk {h:PH} {v:Value} {x:Rat} (r:Fr h v x):∃sn sd,v=.agg #[.bool (decide (x.num < 0)),sn,sd]∧Jk h (decide (x.num < 0)) sn sd x.num.natAbs x.den:=
  let ⟨sn,sd,h1,h2,h3⟩:=r;⟨sn,sd,h1,h2,h3⟩
theorem kf {h0 h:PH} [Le h0 h] {v:Value} {x:Rat} (hx:Fr h0 v x):Spec mach 126 #[v] h (fun v h'=>Fr h' v (-x)) NP:=by
  obtain⟨sn,sd,rfl,hj⟩:=hx.jk
  refine(o7 hj).mono (fun v h' hs hv=>?_) (fun _ _ _ h=>h)
  haveI:Step h h':=⟨hs⟩
  subst hv
  refine⟨sn,sd,?_,by simpa using hj.num.to,by simpa using hj.den.to⟩
  have:(!decide (x.num < 0) && !decide (x.num.natAbs=0))=decide ((-x).num < 0):=by
    rw[Bool.eq_iff_iff];simp only[Bool.and_eq_true,Bool.not_eq_true',decide_eq_false_iff_not,decide_eq_true_eq,Rat.neg_num];omega
  rw[this]
theorem qx {h0 h:PH} [Le h0 h] {v:Value} {x:Rat} (hx:Fr h0 v x):Spec mach 250 #[v] h (fun v _=>v=.bool (decide (sz x≤2048))) NP:=by
  obtain⟨sn,sd,rfl,hj⟩:=hx.jk
  exact Fits_raw hj
def sgn3 (x:Rat):Int:=if x < 0 then -1 else if 0 < x then 1 else 0
theorem num_neg {x:Rat}:x.num < 0↔x < 0:=by rw[Rat.lt_iff];simp
theorem num_pos {x:Rat}:0 < x.num↔0 < x:=by rw[Rat.lt_iff];simp
theorem dv {h0 h:PH} [Le h0 h] {v:Value} {x:Rat} (hx:Fr h0 v x):Spec mach 199 #[v] h (fun v _=>v=.int .i64 (sgn3 x)) NP:=by
  obtain⟨sn,sd,rfl,hj⟩:=hx.jk
  refine(pP hj).mono (fun v h' hs hv=>?_) (fun _ _ _ h=>h)
  subst hv
  refine iv ?_
  simp only[sgn3,←num_neg,←num_pos]
  by_cases h1:x.num < 0
  · rw[if_neg (by omega),if_pos h1];simp[h1]
  · by_cases h2:x.num=0
    · simp[h2]
    · have h3:¬x.num.natAbs=0:=by omega
      have h4:0 < x.num:=by omega
      rw[if_neg h3,decide_eq_false h1,if_neg h1,if_pos h4];simp
theorem mu {h0 h:PH} [Le h0 h] {v:Value} {x:Rat} (hx:Fr h0 v x) (h0':x≠0):Spec mach 178 #[v] h (fun v h'=>Fr h' v x⁻¹) NP:=by
  obtain⟨na,nl,nc,da,dl,dc,rfl,hn,hd⟩:=hx.sl
  have hn0:x.num≠0:=fun e=>h0' (Rat.num_eq_zero.1 e)
  refine Spec.go [] Tryz.func178 rfl rfl (by kernel_rfl) fun C _=>?_
  try simp(maxSteps:=999999) (disch:=omega) only[go_sem,Nat.reduceBEq,reduceAdd]
  refine⟨_,_,?_,by rw[Rat.num_inv,Int.natAbs_mul,Int.natAbs_sign_of_ne_zero hn0,Nat.one_mul,Int.natAbs_natCast];exact hd.to,by rw[Rat.den_inv,if_neg hn0];exact hn.to⟩
  have hp:=x.den_nz
  have:decide ((x⁻¹).num < 0)=decide (x.num < 0):=by
    rw[Rat.num_inv]
    rcases Int.lt_trichotomy x.num 0 with h |h |h
    · rw[Int.sign_eq_neg_one_of_neg h,decide_eq_decide];omega
    · exact(hn0 h).elim
    · rw[Int.sign_eq_one_of_pos h,decide_eq_decide];omega
  rw[this]
theorem wU {h0 h:PH} [Le h0 h] {v w:Value} {x y:Rat} (hx:Fr h0 v x) (hy:Fr h0 w y) (bx:sz x≤2^36) (by_:sz y≤2^36):
    Spec mach 177 #[v,w] h (fun v h'=>Fr h' v (x*y)) NP:=by
  obtain⟨na,nl,nc,da,dl,dc,rfl,hn,hd⟩:=hx.sl
  obtain⟨na',nl',nc',da',dl',dc',rfl,hn',hd'⟩:=hy.sl
  have b1:=bG x;have b2:=bB x;have b3:=bG y;have b4:=bB y
  have b5:=aG x.num.natAbs y.num.natAbs
  have b6:=aG x.den y.den
  refine Spec.go [(1,.o [0,1,2,3,4,5,6,7,8,10,11,12,13,9,14,15,16])] Tryz.func177 rfl rfl (by kernel_rfl) fun C _=>?_
  try simp(maxSteps:=999999) (disch:=omega) only[go_sem,Nat.reduceBEq,reduceAdd]
  refine caN (by exact aI hn hn' (by omega) (by omega)) ?_;rintro _ h1 _ hv1;obtain⟨v1,_,_,rfl,hv1⟩:=hv1.sl
  try simp(maxSteps:=999999) (disch:=omega) only[go_sem,Nat.reduceBEq,reduceAdd]
  refine caN (by exact aI hd hd' (by omega) (by omega)) ?_;rintro _ h2 _ hv2;obtain⟨v2,_,_,rfl,hv2⟩:=hv2.sl
  try simp(maxSteps:=999999) (disch:=omega) only[go_sem,Nat.reduceBEq,reduceAdd]
  refine caN (by exact bW (hv1.to (h':=h2)) hv2 (Nat.mul_ne_zero x.den_nz y.den_nz) (by omega) (by omega)) ?_;rintro _ h3 _ hv3;obtain⟨_,_,_,_,_,_,_,rfl,hv3⟩:=hv3.sa
  try simp(maxSteps:=999999) (disch:=omega) only[go_sem,Nat.reduceBEq,reduceAdd]
  rw[qZ] at hv3
  exact hv3
theorem iV {h0 h:PH} [Le h0 h] {v w:Value} {x y:Rat} (hx:Fr h0 v x) (hy:Fr h0 w y) (bx:sz x≤2^36) (by_:sz y≤2^36):
    Spec mach 212 #[v,w] h (fun v h'=>Fr h' v (x+y)) NP:=by
  obtain⟨na,nl,nc,da,dl,dc,rfl,hn,hd⟩:=hx.sl
  obtain⟨na',nl',nc',da',dl',dc',rfl,hn',hd'⟩:=hy.sl
  have b1:=bG x;have b2:=bB x;have b3:=bG y;have b4:=bB y
  have b5:=aG x.num.natAbs y.den
  have b6:=aG y.num.natAbs x.den
  have b7:=aG x.den y.den
  have b8:=cY (x.num.natAbs*y.den) (y.num.natAbs*x.den)
  have b9:=aR (Nat.sub_le (x.num.natAbs*y.den) (y.num.natAbs*x.den))
  have b10:=aR (Nat.sub_le (y.num.natAbs*x.den) (x.num.natAbs*y.den))
  obtain⟨n1,en1⟩:∃b,decide (x.num < 0)=b:=⟨_,rfl⟩
  obtain⟨n2,en2⟩:∃b,decide (y.num < 0)=b:=⟨_,rfl⟩
  rw[en1,en2]
  refine Spec.go [(1,.o [0,1,2,3,5,6,7,8,4,9,10,11]),(4,.o [0,1,2,3,5,4,6,7]),(6,.o [0,1,2,3,5,4,6,7]),(7,.o [0,1,2,3,5,4,6,7])] Tryz.func212 rfl rfl (by kernel_rfl) fun C _=>?_
  try simp(maxSteps:=999999) (disch:=omega) only[go_sem,Nat.reduceBEq,reduceAdd]
  refine caN (by exact aI hn hd' (by omega) (by omega)) ?_;rintro _ h1 _ hv1;obtain⟨v1,_,_,rfl,hv1⟩:=hv1.sl
  try simp(maxSteps:=999999) (disch:=omega) only[go_sem,Nat.reduceBEq,reduceAdd]
  refine caN (by exact aI hn' hd (by omega) (by omega)) ?_;rintro _ h2 _ hv2;obtain⟨v2,_,_,rfl,hv2⟩:=hv2.sl
  try simp(maxSteps:=999999) (disch:=omega) only[go_sem,Nat.reduceBEq,reduceAdd]
  refine caN (by exact aI hd hd' (by omega) (by omega)) ?_;rintro _ h3 _ hv3;obtain⟨v3,_,_,rfl,hv3⟩:=hv3.sl
  try simp(maxSteps:=999999) (disch:=omega) only[go_sem,Nat.reduceBEq,reduceAdd]
  by_cases he:n1=n2
  · subst he
    try simp(maxSteps:=999999) (disch:=omega) only[go_sem,Nat.reduceBEq,reduceAdd]
    refine caN (by exact bR (hv1.to (h':=h2)) hv2 (by omega) (by omega)) ?_;rintro _ h4 _ hv4;obtain⟨v4,_,_,rfl,hv4⟩:=hv4.sl
    try simp(maxSteps:=999999) (disch:=omega) only[go_sem,Nat.reduceBEq,reduceAdd]
    refine caN (by exact bW (hv4.to (h':=h4)) hv3.to (Nat.mul_ne_zero x.den_nz y.den_nz) (by omega) (by omega)) ?_;rintro _ h5 _ hv5;obtain⟨_,_,_,_,_,_,_,rfl,hv5⟩:=hv5.sa
    try simp(maxSteps:=999999) (disch:=omega) only[go_sem,Nat.reduceBEq,reduceAdd]
    rw[DV en1 en2] at hv5
    exact hv5
  · have hb:(n1 == n2)=false:=by cases n1<;>cases n2<;>simp_all
    have hb':n2=!n1:=by cases n1<;>cases n2<;>simp_all
    try simp(maxSteps:=999999) (disch:=omega) only[go_sem,Nat.reduceBEq,reduceAdd,hb]
    refine caN (by exact fO (hv1.to (h':=h2)) hv2) ?_;rintro v4 h4 s4 rfl
    try simp(maxSteps:=999999) (disch:=omega) only[go_sem,Nat.reduceBEq,reduceAdd]
    by_cases hle:y.num.natAbs*x.den≤x.num.natAbs*y.den
    · have hc:0≤cmp3 (x.num.natAbs*y.den) (y.num.natAbs*x.den):=by simp only[cmp3,if_neg (Nat.not_lt.2 hle)];split<;>decide
      try simp(maxSteps:=999999) (disch:=omega) only[go_sem,Nat.reduceBEq,reduceAdd]
      refine caN (by exact gE (hv1.to (h':=h2)) hv2 hle (by omega)) ?_;rintro _ h5 _ hv5;obtain⟨v5,_,_,rfl,hv5⟩:=hv5.sl
      try simp(maxSteps:=999999) (disch:=omega) only[go_sem,Nat.reduceBEq,reduceAdd]
      refine caN (by exact bW (hv5.to (h':=h5)) hv3.to (Nat.mul_ne_zero x.den_nz y.den_nz) (by omega) (by omega)) ?_;rintro _ h6 _ hv6;obtain⟨_,_,_,_,_,_,_,rfl,hv6⟩:=hv6.sa
      try simp(maxSteps:=999999) (disch:=omega) only[go_sem,Nat.reduceBEq,reduceAdd]
      rw[tP en1 (by rw[en2,hb']) hle] at hv6
      exact hv6
    · have hc:¬0≤cmp3 (x.num.natAbs*y.den) (y.num.natAbs*x.den):=by simp only[cmp3,if_pos (Nat.not_le.1 hle)];decide
      try simp(maxSteps:=999999) (disch:=omega) only[go_sem,Nat.reduceBEq,reduceAdd]
      refine caN (by exact gE (hv2.to (h':=h2)) (hv1.to (h':=h2)) (Nat.le_of_lt (Nat.not_le.1 hle)) (by omega)) ?_;rintro _ h5 _ hv5;obtain⟨v5,_,_,rfl,hv5⟩:=hv5.sl
      try simp(maxSteps:=999999) (disch:=omega) only[go_sem,Nat.reduceBEq,reduceAdd]
      refine caN (by exact bW (hv5.to (h':=h5)) hv3.to (Nat.mul_ne_zero x.den_nz y.den_nz) (by omega) (by omega)) ?_;rintro _ h6 _ hv6;obtain⟨_,_,_,_,_,_,_,rfl,hv6⟩:=hv6.sa
      try simp(maxSteps:=999999) (disch:=omega) only[go_sem,Nat.reduceBEq,reduceAdd]
      rw[Nat.mul_comm x.den,tP en2 (by rw[en1,hb',Bool.not_not]) (Nat.le_of_lt (Nat.not_le.1 hle)),Rat.add_comm] at hv6
      exact hv6
def cmpQ (x y:Rat):Int:=if x < y then -1 else if y < x then 1 else 0
theorem cmp3_neg {x y:Rat} (hx:x.num < 0) (hy:y.num < 0):IntKind.i64.wrap (0 - cmp3 (x.num.natAbs*y.den) (y.num.natAbs*x.den))=cmpQ x y:=by
  have e1:x < y↔y.num.natAbs*x.den < x.num.natAbs*y.den:=by
    rw[Rat.lt_iff]
    generalize x.num=a at*
    generalize y.num=b at*
    obtain⟨m,rfl⟩:∃m:Nat,a= -(m:Int):=⟨a.natAbs,by omega⟩
    obtain⟨n,rfl⟩:∃n:Nat,b= -(n:Int):=⟨b.natAbs,by omega⟩
    simp only[Int.neg_mul,Int.natAbs_neg,Int.natAbs_natCast]
    rw[Int.neg_lt_neg_iff]
    exact_mod_cast Iff.rfl
  have e2:y < x↔x.num.natAbs*y.den < y.num.natAbs*x.den:=by
    rw[Rat.lt_iff]
    generalize x.num=a at*
    generalize y.num=b at*
    obtain⟨m,rfl⟩:∃m:Nat,a= -(m:Int):=⟨a.natAbs,by omega⟩
    obtain⟨n,rfl⟩:∃n:Nat,b= -(n:Int):=⟨b.natAbs,by omega⟩
    simp only[Int.neg_mul,Int.natAbs_neg,Int.natAbs_natCast]
    rw[Int.neg_lt_neg_iff]
    exact_mod_cast Iff.rfl
  simp only[cmpQ,e1,e2,cmp3]
  by_cases h1:x.num.natAbs*y.den < y.num.natAbs*x.den
  · rw[if_pos h1,if_neg (by omega),if_pos h1];rfl
  · by_cases h2:y.num.natAbs*x.den < x.num.natAbs*y.den
    · rw[if_neg h1,if_pos h2,if_pos h2];rfl
    · rw[if_neg h1,if_neg h2,if_neg h2,if_neg h1];rfl
theorem cmp3_pos {x y:Rat} (hx:¬x.num < 0) (hy:¬y.num < 0):cmp3 (x.num.natAbs*y.den) (y.num.natAbs*x.den)=cmpQ x y:=by
  have e1:x < y↔x.num.natAbs*y.den < y.num.natAbs*x.den:=by
    rw[Rat.lt_iff]
    generalize x.num=a at*
    generalize y.num=b at*
    obtain⟨m,rfl⟩:∃m:Nat,a=(m:Int):=⟨a.natAbs,by omega⟩
    obtain⟨n,rfl⟩:∃n:Nat,b=(n:Int):=⟨b.natAbs,by omega⟩
    simp only[Int.natAbs_natCast]
    exact_mod_cast Iff.rfl
  have e2:y < x↔y.num.natAbs*x.den < x.num.natAbs*y.den:=by
    rw[Rat.lt_iff]
    generalize x.num=a at*
    generalize y.num=b at*
    obtain⟨m,rfl⟩:∃m:Nat,a=(m:Int):=⟨a.natAbs,by omega⟩
    obtain⟨n,rfl⟩:∃n:Nat,b=(n:Int):=⟨b.natAbs,by omega⟩
    simp only[Int.natAbs_natCast]
    exact_mod_cast Iff.rfl
  simp only[cmpQ,e1,e2,cmp3]
theorem dq {h0 h:PH} [Le h0 h] {v w:Value} {x y:Rat} (hx:Fr h0 v x) (hy:Fr h0 w y) (bx:sz x≤2^36) (by_:sz y≤2^36):
    Spec mach 117 #[v,w] h (fun v _=>v=.int .i64 (cmpQ x y)) NP:=by
  obtain⟨na,nl,nc,da,dl,dc,rfl,hn,hd⟩:=hx.sl
  obtain⟨na',nl',nc',da',dl',dc',rfl,hn',hd'⟩:=hy.sl
  have b1:=bG x;have b2:=bB x;have b3:=bG y;have b4:=bB y
  have b5:=aG x.num.natAbs y.den
  have b6:=aG y.num.natAbs x.den
  refine Spec.go [(1,.o [0,2,1,3,4]),(2,.o [0,2,1,3,4]),(5,.o [0,1,2,3,5,6,7,8,4,9,10,11])] Tryz.func117 rfl rfl (by kernel_rfl) fun C _=>?_
  try simp(maxSteps:=999999) (disch:=omega) only[go_sem,Nat.reduceBEq,reduceAdd]
  refine caN (by exact dv hx) ?_;rintro v1 h1 s1 rfl
  try simp(maxSteps:=999999) (disch:=omega) only[go_sem,Nat.reduceBEq,reduceAdd]
  refine caN (by exact dv hy) ?_;rintro v2 h2 s2 rfl
  try simp(maxSteps:=999999) (disch:=omega) only[go_sem,Nat.reduceBEq,reduceAdd]
  by_cases he:sgn3 x=sgn3 y
  · try simp(maxSteps:=999999) (disch:=omega) only[go_sem,Nat.reduceBEq,reduceAdd]
    refine caN (by exact aI hn hd' (by omega) (by omega)) ?_;rintro _ h3 _ hv3;obtain⟨v3,_,_,rfl,hv3⟩:=hv3.sl
    try simp(maxSteps:=999999) (disch:=omega) only[go_sem,Nat.reduceBEq,reduceAdd]
    refine caN (by exact aI hn' hd (by omega) (by omega)) ?_;rintro _ h4 _ hv4;obtain⟨v4,_,_,rfl,hv4⟩:=hv4.sl
    try simp(maxSteps:=999999) (disch:=omega) only[go_sem,Nat.reduceBEq,reduceAdd]
    refine caN (by exact fO (hv3.to (h':=h4)) hv4) ?_;rintro v5 h5 s5 rfl
    try simp(maxSteps:=999999) (disch:=omega) only[go_sem,Nat.reduceBEq,reduceAdd]
    by_cases hneg:x.num < 0
    · have hneg':y.num < 0:=by
        have h1:=num_neg.1 hneg
        rw[num_neg]
        unfold sgn3 at he
        rw[if_pos h1] at he
        split at he
        · assumption
        · split at he<;>cases he
      have hw:=cmp3_neg hneg hneg'
      have e1:decide (x.num < 0)=true:=decide_eq_true hneg
      try simp(maxSteps:=999999) (disch:=omega) only[go_sem,Nat.reduceBEq,reduceAdd,e1]
      rw[hw]
    · have hneg':¬y.num < 0:=by
        intro h2
        rw[num_neg] at hneg h2
        unfold sgn3 at he
        rw[if_neg hneg,if_pos h2] at he
        split at he<;>cases he
      have hw:=cmp3_pos hneg hneg'
      have e1:decide (x.num < 0)=false:=decide_eq_false hneg
      try simp(maxSteps:=999999) (disch:=omega) only[go_sem,Nat.reduceBEq,reduceAdd,e1]
      rw[hw]
  · by_cases hl:sgn3 x < sgn3 y
    · have hr:x < y:=by
        unfold sgn3 at hl;grind
      try simp(maxSteps:=999999) (disch:=omega) only[go_sem,Nat.reduceBEq,reduceAdd]
      refine caN (by exact dv hx) ?_;rintro v3 h3 s3 rfl
      try simp(maxSteps:=999999) (disch:=omega) only[go_sem,Nat.reduceBEq,reduceAdd]
      refine caN (by exact dv hy) ?_;rintro v4 h4 s4 rfl
      try simp(maxSteps:=999999) (disch:=omega) only[go_sem,Nat.reduceBEq,reduceAdd]
      simp[cmpQ,hr]
    · have hr:y < x:=by
        unfold sgn3 at hl he;grind
      have hnl:¬x < y:=by grind
      try simp(maxSteps:=999999) (disch:=omega) only[go_sem,Nat.reduceBEq,reduceAdd]
      refine caN (by exact dv hx) ?_;rintro v3 h3 s3 rfl
      try simp(maxSteps:=999999) (disch:=omega) only[go_sem,Nat.reduceBEq,reduceAdd]
      refine caN (by exact dv hy) ?_;rintro v4 h4 s4 rfl
      try simp(maxSteps:=999999) (disch:=omega) only[go_sem,Nat.reduceBEq,reduceAdd]
      simp[cmpQ,hr,hnl]
set_option maxHeartbeats 8000000
theorem yj (a:Nat) {d:Nat} (hd:d≠0): -(a:Int) / d= -((a / d+(if a % d=0 then 0 else 1):Nat):Int):=by
  have h1:=Nat.div_add_mod a d
  have h2:=Nat.mod_lt a (Nat.pos_of_ne_zero hd)
  generalize a / d=q at*
  generalize a % d=r at*
  subst h1
  have hp:(0:Int) < d:=by omega
  by_cases hr:r=0
  · subst hr
    rw[if_pos rfl]
    have: -((d*q+0:Nat):Int)=(d:Int)* -(q:Int):=by push_cast;rw[Int.mul_neg];omega
    rw[this,Int.mul_ediv_cancel_left _ (by omega)];simp
  · rw[if_neg hr]
    refine((Int.ediv_emod_unique (r:=(d:Int) - r) hp).2 ⟨?_,by omega,by omega⟩).1
    push_cast
    rw[Int.mul_neg,Int.mul_add];omega
theorem mk_scaled (a:Int) (d p:Nat):mkRat a d*2^p=mkRat (a*2^p) d:=by
  have:=Rat.mkRat_mul_mkRat a (2^p) d 1
  rw[Nat.mul_one] at this
  rw[←this]
  congr 1
  rw[Rat.mkRat_one]
  push_cast
  rfl
theorem grid_raw (neg:Bool) (m:Nat) {d:Nat} (hd:d≠0) (p:Nat) (u:Bool):sgn neg (m*2^p / d+(if (u != neg)=true∧m*2^p % d≠0 then 1 else 0)) (2^p)=if u then gup (sgn neg m d) p else gdown (sgn neg m d) p:=by
  unfold sgn gup gdown
  rw[mk_scaled,pW _ hd,xH _ hd,←ol,←ol]
  have e2:((2:Int)^p)=((2^p:Nat):Int):=by push_cast;rfl
  have h1:=yj (m*2^p) hd
  cases neg with
  | true=>
    have e3: -(m:Int)*2^p= -((m*2^p:Nat):Int):=by rw[e2,Int.neg_mul];push_cast;rfl
    simp only[if_true]
    rw[e3,Int.neg_neg]
    cases u with
    |true=>simp
    | false=>
      simp only[Bool.false_eq_true,if_false]
      rw[h1]
      by_cases hr:m*2^p % d=0<;>simp[hr]
  | false=>
    have e3:(m:Int)*2^p=((m*2^p:Nat):Int):=by rw[e2];push_cast;rfl
    simp only[Bool.false_eq_true,if_false]
    rw[e3]
    cases u with
    | true=>
      simp only[if_true]
      rw[h1,Int.neg_neg]
      by_cases hr:m*2^p % d=0<;>simp[hr]
    |false=>simp
theorem Grid_raw {h0 h:PH} [Le h0 h] {neg:Bool} {sn sd:Value} {m d p:Nat} {u:Bool} (hn:N32 h0 sn m) (hd:N32 h0 sd d) (hd0:d≠0) (b1:bl m≤2^36) (b2:bl d≤2^36) (hp:p≤2^36):
    Spec mach 203 #[.agg #[.bool neg,sn,sd],.int .i64 p,.bool u] h (fun v h'=>Fr h' v (if u then gup (sgn neg m d) p else gdown (sgn neg m d) p)) NP:=by
  obtain⟨na,nl,nc,rfl,hn⟩:=hn.sl
  obtain⟨da,dl,dc,rfl,hd⟩:=hd.sl
  have b3:=cu m p
  have b4:=aZ (m*2^p) d
  have b5:=cY (m*2^p / d) 1
  have b6:=bC p
  have b7:=fI
  have b8:bl (1*2^p)≤2^37:=by rw[Nat.one_mul];omega
  have p0:1*2^p≠0:=by rw[Nat.one_mul];exact Nat.ne_of_gt (Nat.pow_pos (by decide))
  have hgv:=grid_raw neg m hd0 p u
  generalize(if u then gup (sgn neg m d) p else gdown (sgn neg m d) p)=R at*
  have kD:=fun {h} [Le h0 h] {v:Value} (c:N32 h v (m*2^p))=>gU (h:=h) c (hd.to (h':=h)) hd0 (by omega) (by omega)
  have kS:=fun {h} [Le h0 h]=>aL (h:=h) (n:=p) hn (by omega)
  have c1:bl (m*2^p / d)≤2^38:=by omega
  have c2:bl (m*2^p / d+1)≤2^39:=by omega
  generalize m*2^p / d=q' at*
  generalize m*2^p % d=r' at*
  rw[←Nat.one_mul (2^p)] at hgv
  clear b3 b4 b5 b6
  by_cases hun:u=neg
  · rw[if_neg (by rw[hun];simp),Nat.add_zero] at hgv
    have e1:(u == neg)=true:=by rw[hun];simp
    refine Spec.go [(1,.o [0,1,2,4,5,3,6,7,8,9,10,11]),(4,.o [0,1,2,4,3,5,6,7])] Tryz.func203 rfl rfl (by kernel_rfl) fun C _=>?_
    try simp(maxSteps:=999999) (disch:=omega) only[go_sem,Nat.reduceBEq,reduceAdd]
    refine caN (by exact kS) ?_;rintro v1 h1 s1 q1;obtain⟨_,_,_,rfl,q1⟩:=q1.sl
    try simp(maxSteps:=999999) (disch:=omega) only[go_sem,Nat.reduceBEq,reduceAdd]
    refine caN (by exact kD q1) ?_;rintro v2 h2 s2 ⟨q,r,rfl,hq,hr⟩;obtain⟨_,_,_,rfl,hq⟩:=hq.sl;obtain⟨_,_,_,rfl,hr⟩:=hr.sl
    try simp(maxSteps:=999999) (disch:=omega) only[go_sem,Nat.reduceBEq,reduceAdd,e1]
    refine caN (by exact aw (n:=1) (by decide)) ?_;rintro _ h3 _ hw1;obtain⟨w1,_,_,rfl,hw1⟩:=hw1.sl
    try simp(maxSteps:=999999) (disch:=omega) only[go_sem,Nat.reduceBEq,reduceAdd]
    refine caN (by exact aL (n:=p) hw1 (by omega)) ?_;rintro _ h4 _ hw2;obtain⟨w2,_,_,rfl,hw2⟩:=hw2.sl
    try simp(maxSteps:=999999) (disch:=omega) only[go_sem,Nat.reduceBEq,reduceAdd]
    refine caN (by exact bW (neg:=neg) (hq.to (h':=h4)) hw2 p0 (by omega) (by omega)) ?_;rintro _ h5 _ hw3;obtain⟨_,_,_,_,_,_,_,rfl,hw3⟩:=hw3.sa
    try simp(maxSteps:=999999) (disch:=omega) only[go_sem,Nat.reduceBEq,reduceAdd]
    rw[hgv] at hw3
    exact hw3
  · have hun':(u != neg)=true:=by simpa using hun
    have e1:(u == neg)=false:=by simpa using hun
    by_cases hr0:r'=0
    · rw[if_neg (by simp[hr0]),Nat.add_zero] at hgv
      have e2:=decide_eq_true hr0
      refine Spec.go [(1,.o [0,1,2,4,5,3,6,7,8,9,10,11]),(4,.o [0,1,2,4,3,5,6,7])] Tryz.func203 rfl rfl (by kernel_rfl) fun C _=>?_
      try simp(maxSteps:=999999) (disch:=omega) only[go_sem,Nat.reduceBEq,reduceAdd]
      refine caN (by exact kS) ?_;rintro v1 h1 s1 q1;obtain⟨_,_,_,rfl,q1⟩:=q1.sl
      try simp(maxSteps:=999999) (disch:=omega) only[go_sem,Nat.reduceBEq,reduceAdd]
      refine caN (by exact kD q1) ?_;rintro v2 h2 s2 ⟨q,r,rfl,hq,hr⟩;obtain⟨_,_,_,rfl,hq⟩:=hq.sl;obtain⟨_,_,_,rfl,hr⟩:=hr.sl
      try simp(maxSteps:=999999) (disch:=omega) only[go_sem,Nat.reduceBEq,reduceAdd,e1]
      refine caN (by exact bU hr) ?_;rintro v3 h3 s3 rfl
      try simp(maxSteps:=999999) (disch:=omega) only[go_sem,Nat.reduceBEq,reduceAdd,e2]
      refine caN (by exact aw (n:=1) (by decide)) ?_;rintro _ h4 _ hw1;obtain⟨w1,_,_,rfl,hw1⟩:=hw1.sl
      try simp(maxSteps:=999999) (disch:=omega) only[go_sem,Nat.reduceBEq,reduceAdd]
      refine caN (by exact aL (n:=p) hw1 (by omega)) ?_;rintro _ h5 _ hw2;obtain⟨w2,_,_,rfl,hw2⟩:=hw2.sl
      try simp(maxSteps:=999999) (disch:=omega) only[go_sem,Nat.reduceBEq,reduceAdd]
      refine caN (by exact bW (neg:=neg) (hq.to (h':=h5)) hw2 p0 (by omega) (by omega)) ?_;rintro _ h6 _ hw3;obtain⟨_,_,_,_,_,_,_,rfl,hw3⟩:=hw3.sa
      try simp(maxSteps:=999999) (disch:=omega) only[go_sem,Nat.reduceBEq,reduceAdd]
      rw[hgv] at hw3
      exact hw3
    · rw[if_pos ⟨hun',hr0⟩] at hgv
      have e2:=decide_eq_false hr0
      refine Spec.go [(1,.o [0,1,2,4,5,3,6,7,8,9,10,11]),(4,.o [0,1,2,4,3,5,6,7])] Tryz.func203 rfl rfl (by kernel_rfl) fun C _=>?_
      try simp(maxSteps:=999999) (disch:=omega) only[go_sem,Nat.reduceBEq,reduceAdd]
      refine caN (by exact kS) ?_;rintro v1 h1 s1 q1;obtain⟨_,_,_,rfl,q1⟩:=q1.sl
      try simp(maxSteps:=999999) (disch:=omega) only[go_sem,Nat.reduceBEq,reduceAdd]
      refine caN (by exact kD q1) ?_;rintro v2 h2 s2 ⟨q,r,rfl,hq,hr⟩;obtain⟨_,_,_,rfl,hq⟩:=hq.sl;obtain⟨_,_,_,rfl,hr⟩:=hr.sl
      try simp(maxSteps:=999999) (disch:=omega) only[go_sem,Nat.reduceBEq,reduceAdd,e1]
      refine caN (by exact bU hr) ?_;rintro v3 h3 s3 rfl
      try simp(maxSteps:=999999) (disch:=omega) only[go_sem,Nat.reduceBEq,reduceAdd,e2]
      refine caN (by exact aw (n:=1) (by decide)) ?_;rintro _ h4 _ hw1;obtain⟨w1,_,_,rfl,hw1⟩:=hw1.sl
      try simp(maxSteps:=999999) (disch:=omega) only[go_sem,Nat.reduceBEq,reduceAdd]
      refine caN (by exact bR (hq.to (h':=h4)) hw1 (by omega) (by decide)) ?_;rintro _ h7 _ hw4;obtain⟨_,_,_,rfl,hw4⟩:=hw4.sl
      try simp(maxSteps:=999999) (disch:=omega) only[go_sem,Nat.reduceBEq,reduceAdd]
      refine caN (by exact aw (n:=1) (by decide)) ?_;rintro _ h8 _ hw5;obtain⟨_,_,_,rfl,hw5⟩:=hw5.sl
      try simp(maxSteps:=999999) (disch:=omega) only[go_sem,Nat.reduceBEq,reduceAdd]
      refine caN (by exact aL (n:=p) hw5 (by omega)) ?_;rintro _ h5 _ hw2;obtain⟨w2,_,_,rfl,hw2⟩:=hw2.sl
      try simp(maxSteps:=999999) (disch:=omega) only[go_sem,Nat.reduceBEq,reduceAdd]
      refine caN (by exact bW (neg:=neg) (hw4.to (h':=h5)) hw2 p0 (by omega) (by omega)) ?_;rintro _ h6 _ hw3;obtain⟨_,_,_,_,_,_,_,rfl,hw3⟩:=hw3.sa
      try simp(maxSteps:=999999) (disch:=omega) only[go_sem,Nat.reduceBEq,reduceAdd]
      rw[hgv] at hw3
      exact hw3
theorem jG {h0 h:PH} [Le h0 h] {v:Value} {x:Rat} {p:Nat} {u:Bool} (hx:Fr h0 v x) (bx:sz x≤2^36) (hp:p≤2^36):
    Spec mach 203 #[v,.int .i64 p,.bool u] h (fun v h'=>Fr h' v (if u then gup x p else gdown x p)) NP:=by
  obtain⟨na,nl,nc,da,dl,dc,rfl,hn,hd⟩:=hx.sl
  have:=Grid_raw (h:=h) (neg:=decide (x.num < 0)) (p:=p) (u:=u) hn hd x.den_nz (Nat.le_trans (bG x) bx) (Nat.le_trans (bB x) bx) hp
  rwa[DW] at this
end Go.Q
