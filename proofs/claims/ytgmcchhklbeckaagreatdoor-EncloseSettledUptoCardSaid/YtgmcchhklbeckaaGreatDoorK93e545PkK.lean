/-
  Contracts of the reference's natural numbers, and what stands on it. Conditions: each theorem's own.
-/
import Derived.Test.YtgmcchhklbeckaaGreatDoorKf08e96PkG
import Derived.Test.YtgmcchhklbeckaaGreatDoorK46f679PkJ
import Derived.Test.YtgmcchhklbeckaaGreatDoorKe1901fPkI
set_option linter.unusedVariables false
set_option linter.unusedSimpArgs false
open Nat renaming reduceBEq→ξ,reduceAdd→ζ,le_trans→χ,mul_le_mul_right→ψ,le_refl→η,mul_comm→ρ,mul_le_mul_left→ω,mul_assoc→σ,mul_le_mul→qAk,mul_add→qAm,pow_succ→qAn,pow_pos→qAo,pow_add→qAs,pow_le_pow_right→qAv,mul_one→qAz,mul_ne_zero→qBe,mod_eq_of_lt→qBi,lt_or_ge→qBj,mod_lt→qBl,one_mul→qBm
open List renaming length_append→qAp,take_of_length_le→qAr,mem_cons_self→qAt,mem_append→qAu
namespace Go.Q
open Go.Proofs
set_option maxRecDepth 100000
set_option maxHeartbeats 4000000
theorem norm16 {n s:Nat} (hn:n≠0) (h1:32768≤n / 65536^((W 65536 n).length - 1)*2^s) (h2:n / 65536^((W 65536 n).length - 1)*2^s < 65536):(W 65536 (n*2^s)).length=(W 65536 n).length:=by
 obtain⟨L,hL⟩:∃L,(W 65536 n).length=L+1:=⟨_,(Nat.succ_pred (by have:=jQ B16 hn;omega)).symm⟩
 obtain⟨_,t2,t3⟩:=W_top B16 hn
 rw[hL] at t2 t3 h1 h2 ⊢
 simp only[Nat.add_sub_cancel] at t2 t3 h1 h2
 have hP:0 < 65536^L:=qAo (by decide)
 have e:=Nat.div_add_mod n (65536^L)
 have hm:=qBl n hP
 have hDl:65536^L≤n*2^s:=χ t2 (Nat.le_mul_of_pos_right _ (qAo (by decide)))
 have hDu:n*2^s < 65536^(L+1):=by
  have h3:n < 65536^L*(n / 65536^L+1):=by rw[qAm];omega
  have hp:0 < 2^s:=qAo (by decide)
  have hle:(n / 65536^L+1)*2^s≤65536:=by
   rw[Nat.add_mul,qBm]
   -- 2^s divides 65536
   have hs:s≤16:=by
    rcases qBj 16 s with h |h
    ·exfalso
     have h4:=qAv (show 0 < 2 by decide) (show 17≤s from h)
     have h5:1≤n / 65536^L:=Nat.div_pos t2 hP
     have h6:=qAk h5 h4
     omega
    ·exact h
   have e2:(65536:Nat)=2^s*2^(16 - s):=by rw[←qAs,show s+(16 - s)=16 by omega]
   have h7:n / 65536^L < 2^(16 - s):=by
    have h3:2^s*(n / 65536^L) < 2^s*2^(16 - s):=by rw[←e2,ρ];exact h2
    exact Nat.lt_of_mul_lt_mul_left h3
   have h8:=ω (2^s) (show n / 65536^L+1≤2^(16 - s) from h7)
   rw[←e2,qAm,qAz,ρ (2^s)] at h8
   exact h8
  have h9:=Nat.mul_lt_mul_of_pos_right h3 hp
  rw[σ] at h9
  rw[qAn]
  exact Nat.lt_of_lt_of_le h9 (ω _ hle)
 have h4:=cV B16 hDu
 have h5:=vD B16 hDl
 omega
theorem dJ {h0 h:PH} [Le h0 h] {v w:Value} {m n:Nat} (hv:N16 h0 v m) (hw:N16 h0 w n) (hn:n≠0) (bm:bl m≤2^38) (bn:bl n≤2^38):
  Spec mach 88 #[v,w] h (fun v h'=>∃q r,v=.tuple #[q,r]∧N16 h' q (m / n)∧N16 h' r (m % n)) NP:=by
 obtain⟨a,c,xs,hve,ha,hxs,hm,hx16⟩:=hv.out
 obtain⟨a',c',ys,hwe,ha',hys,hnn,hy16⟩:=hw.out
 subst hve hwe
 have hs:xs.length≤2^38:=by have:=cr m;rw[hxs] at this;omega
 have hs':ys.length≤2^38:=by have:=cr n;rw[hys] at this;omega
 have hl0:=jQ B16 hn
 rw[hys] at hl0
 refine Spec.enter (args:=[_,_]) (n:=95) Tryz.func88 rfl (by kernel_rfl) rfl (by simp) [.tmp 4,.tmp 5] rfl (fun C _=>?_)
 by_cases hlt:m < n
 ·have hc:cmp3 m n < 0:=by simp[cmp3,hlt]
  repeat (first |(refine wo rfl (fun k hk=>?_);simp(disch:=omega) only[go_sem,ξ,ζ];apply hk;clear hk k) |refine wkt rfl ?_ |refine wk0 ?_ |refine rg rfl rfl (fun K hK=>?_) |refine rd [.o 0,.o 2,.o 3,.o 4,.o 6,.o 1,.o 5,.o 7,.o 8,.o 9] rfl (by decide+kernel) rfl (fun K hK=>?_) |((first |refine ae ?_ |refine ac ?_);simp(disch:=decide) only[qs,qb,if_true,if_false,reduceIte]) |refine ah rfl (fun K hK=>?_) |refine ct rfl ?_ |((try simp(disch:=omega) only[go_sem,ξ,ζ]);(first |apply hK |(clear hK;apply hK) |(clear hK;clear hK;apply hK));clear hK;(try clear K);(try dsimp only[ag,qs,qb])))
  refine cN rfl rfl rfl rfl (by exact eI hv hw) ?_;rintro v h1 hs1 rfl
  repeat (first |(refine wo rfl (fun k hk=>?_);simp(disch:=omega) only[go_sem,ξ,ζ];apply hk;clear hk k) |refine wkt rfl ?_ |refine wk0 ?_ |refine rg rfl rfl (fun K hK=>?_) |refine rd [.o 0,.o 2,.o 3,.o 4,.o 6,.o 1,.o 5,.o 7,.o 8,.o 9] rfl (by decide+kernel) rfl (fun K hK=>?_) |((first |refine ae ?_ |refine ac ?_);simp(disch:=decide) only[qs,qb,if_true,if_false,reduceIte]) |refine ah rfl (fun K hK=>?_) |refine ct rfl ?_ |((try simp(disch:=omega) only[go_sem,ξ,ζ]);(first |apply hK |(clear hK;apply hK) |(clear hK;clear hK;apply hK));clear hK;(try clear K);(try dsimp only[ag,qs,qb])))
  refine wo rfl (fun k hk=>?_);simp(disch:=omega) only[go_sem,ξ,ζ]
  by_cases hx0:xs.length=0
  ·refine⟨[],by simp[hx0],fun hne=>(hne hx0).elim,rfl,fun junk=>?_⟩
   apply hk;clear hk k
   (repeat (first |(refine wo rfl (fun k hk=>?_);simp(disch:=omega) only[go_sem,ξ,ζ];apply hk;clear hk k) |refine wkt rfl ?_));(try refine wk0 ?_)
   (try (simp(disch:=omega) only[go_sem,ξ,ζ]));apply hK;clear hK;(try clear K);(try dsimp only[ag,qs])
   refine mp 1 ?_
   simp(disch:=omega) only[go_sem,ξ,ζ]
   intro b h2 hs2 hb
   refine ai ?_;simp(disch:=omega) only[go_sem,ξ,ζ]
   have e:xs=[]:=List.eq_nil_of_length_eq_zero hx0
   refine⟨_,_,rfl,by rw[Nat.div_eq_of_lt hlt];exact N16.zero _,?_⟩
   rw[qBi hlt]
   exact N16.of_pub (ds:=[]) (junk:=junk) (by simpa[uw] using hb) (by rw[hxs,e]) (by simp) (by simp[hx0]) (by simp)
  ·refine⟨uw xs,by simp[uw],fun hne=>?_,uV xs,fun junk=>?_⟩
   ·obtain⟨ad',h3,h4⟩:=ha.cells h1 hne
    exact⟨ad',h3,h4⟩
   apply hk;clear hk k
   (repeat (first |(refine wo rfl (fun k hk=>?_);simp(disch:=omega) only[go_sem,ξ,ζ];apply hk;clear hk k) |refine wkt rfl ?_));(try refine wk0 ?_)
   (try (simp(disch:=omega) only[go_sem,ξ,ζ]));apply hK;clear hK;(try clear K);(try dsimp only[ag,qs])
   refine mp 1 ?_
   simp(disch:=omega) only[go_sem,ξ,ζ]
   intro b h2 hs2 hb
   refine ai ?_;simp(disch:=omega) only[go_sem,ξ,ζ]
   refine⟨_,_,rfl,by rw[Nat.div_eq_of_lt hlt];exact N16.zero _,?_⟩
   rw[qBi hlt]
   exact N16.of_pub (ds:=xs) (junk:=junk) hb hxs (by omega) rfl (by omega)
 have hc:0≤cmp3 m n:=by simp only[cmp3,if_neg hlt];split<;>decide
 by_cases hl1:ys.length=1
 ·obtain⟨hnB,hn0⟩:=xr B16 (n:=n) (by rw[hys];exact hl1)
  rw[hys] at hn0
  repeat (first |(refine wo rfl (fun k hk=>?_);simp(disch:=omega) only[go_sem,ξ,ζ];apply hk;clear hk k) |refine wkt rfl ?_ |refine wk0 ?_ |refine rg rfl rfl (fun K hK=>?_) |refine rd [.o 0,.o 2,.o 3,.o 4,.o 6,.o 1,.o 5,.o 7,.o 8,.o 9] rfl (by decide+kernel) rfl (fun K hK=>?_) |((first |refine ae ?_ |refine ac ?_);simp(disch:=decide) only[qs,qb,if_true,if_false,reduceIte]) |refine ah rfl (fun K hK=>?_) |refine ct rfl ?_ |((try simp(disch:=omega) only[go_sem,ξ,ζ]);(first |apply hK |(clear hK;apply hK) |(clear hK;clear hK;apply hK));clear hK;(try clear K);(try dsimp only[ag,qs,qb])))
  refine cN rfl rfl rfl rfl (by exact eI hv hw) ?_;rintro v h1 hs1 rfl;(repeat (first |(refine wo rfl (fun k hk=>?_);simp(disch:=omega) only[go_sem,ξ,ζ];apply hk;clear hk k) |refine wkt rfl ?_));(try refine wk0 ?_)
  (try (simp(disch:=omega) only[go_sem,ξ,ζ]));apply hK;clear hK;(try clear K);(try dsimp only[ag,qs])
  obtain⟨ad,rfl,hat⟩:=ha'.rd0 h1 (by omega)
  rw[hn0] at hat
  repeat (first |((first |refine rg rfl rfl (fun K hK=>?_) |refine rd [.o 0,.o 2,.o 3,.o 4,.o 6,.o 1,.o 5,.o 7,.o 8,.o 9] rfl (by decide+kernel) rfl (fun K hK=>?_));(repeat (first |(refine wo rfl (fun k hk=>?_);simp(disch:=omega) only[go_sem,ξ,ζ];apply hk;clear hk k) |refine wkt rfl ?_));(try refine wk0 ?_);apply hK;clear hK K;(try dsimp only[ag,qs,qb])) |((first |refine ae ?_ |refine ac ?_);simp(disch:=decide) only[qs,qb,if_true,if_false,reduceIte]) |refine ah rfl (fun K hK=>?_) |refine ct rfl ?_ |((first |refine hK _ _ ?_ |(clear hK;refine hK _ _ ?_) |(clear hK;clear hK;refine hK _ _ ?_));clear hK;(try clear K)))
  (first |refine rg rfl rfl (fun K hK=>?_) |refine rd [.o 0,.o 2,.o 3,.o 4,.o 6,.o 1,.o 5,.o 7,.o 8,.o 9] rfl (by decide+kernel) rfl (fun K hK=>?_));(repeat (first |(refine wo rfl (fun k hk=>?_);simp(disch:=omega) only[go_sem,ξ,ζ,hat];apply hk;clear hk k) |refine wkt rfl ?_));(try refine wk0 ?_)
  refine cN rfl rfl rfl rfl (by exact FU hv (by omega) (by omega) hnB) ?_;rintro v h2 hs2 ⟨q,rfl,hq⟩;(repeat (first |(refine wo rfl (fun k hk=>?_);simp(disch:=omega) only[go_sem,ξ,ζ];apply hk;clear hk k) |refine wkt rfl ?_));(try refine wk0 ?_)
  have hmod:=qBl m (show 0 < n by omega)
  (try (simp(disch:=omega) only[go_sem,ξ,ζ]));apply hK;clear hK;(try clear K);(try dsimp only[ag,qs])
  (first |refine rg rfl rfl (fun K hK=>?_) |refine rd [.o 0,.o 2,.o 3,.o 4,.o 6,.o 1,.o 5,.o 7,.o 8,.o 9] rfl (by decide+kernel) rfl (fun K hK=>?_));(repeat (first |(refine wo rfl (fun k hk=>?_);simp(disch:=omega) only[go_sem,ξ,ζ];apply hk;clear hk k) |refine wkt rfl ?_));(try refine wk0 ?_)
  refine cN rfl rfl rfl rfl (by exact bQ (n:=m % n) (by omega)) ?_;rintro v h3 hs3 hr;(repeat (first |(refine wo rfl (fun k hk=>?_);simp(disch:=omega) only[go_sem,ξ,ζ];apply hk;clear hk k) |refine wkt rfl ?_));(try refine wk0 ?_)
  (try (simp(disch:=omega) only[go_sem,ξ,ζ]));apply hK;clear hK;(try clear K);(try dsimp only[ag,qs])
  refine ai ?_;simp(disch:=omega) only[go_sem,ξ,ζ]
  exact⟨_,_,rfl,hq.to,hr⟩
 have hl2:2≤ys.length:=by omega
 have hm0:m≠0:=by omega
 repeat (first |(refine wo rfl (fun k hk=>?_);simp(disch:=omega) only[go_sem,ξ,ζ];apply hk;clear hk k) |refine wkt rfl ?_ |refine wk0 ?_ |refine rg rfl rfl (fun K hK=>?_) |refine rd [.o 0,.o 2,.o 3,.o 4,.o 6,.o 1,.o 5,.o 7,.o 8,.o 9] rfl (by decide+kernel) rfl (fun K hK=>?_) |((first |refine ae ?_ |refine ac ?_);simp(disch:=decide) only[qs,qb,if_true,if_false,reduceIte]) |refine ah rfl (fun K hK=>?_) |refine ct rfl ?_ |((try simp(disch:=omega) only[go_sem,ξ,ζ]);(first |apply hK |(clear hK;apply hK) |(clear hK;clear hK;apply hK));clear hK;(try clear K);(try dsimp only[ag,qs,qb])))
 refine cN rfl rfl rfl rfl (by exact eI hv hw) ?_;rintro v h1 hs1 rfl
 repeat (first |(refine wo rfl (fun k hk=>?_);simp(disch:=omega) only[go_sem,ξ,ζ];apply hk;clear hk k) |refine wkt rfl ?_ |refine wk0 ?_ |((first |refine rg rfl rfl (fun K hK=>?_) |refine rd [.o 0,.o 2,.o 3,.o 4,.o 6,.o 1,.o 5,.o 7,.o 8,.o 9] rfl (by decide+kernel) rfl (fun K hK=>?_));(repeat (first |(refine wo rfl (fun k hk=>?_);simp(disch:=omega) only[go_sem,ξ,ζ];apply hk;clear hk k) |refine wkt rfl ?_ |refine wk0 ?_));(first |apply hK |(clear hK;apply hK) |(clear hK;clear hK;apply hK));clear hK;(try clear K);(try dsimp only[ag,qs,qb])) |((first |refine ae ?_ |refine ac ?_);simp(disch:=decide) only[qs,qb,if_true,if_false,reduceIte]) |refine ah rfl (fun K hK=>?_) |refine ct rfl ?_ |((try simp(disch:=omega) only[go_sem,ξ,ζ]);(first |apply hK |(clear hK;apply hK) |(clear hK;clear hK;apply hK));clear hK;(try clear K);(try dsimp only[ag,qs,qb])))
 obtain⟨t1,t2,t3⟩:=W_top B16 hn
 rw[hys] at t1 t2 t3
 obtain⟨t,hte⟩:∃t,n / 65536^(ys.length - 1)=t:=⟨_,rfl⟩
 rw[hte] at t1 t3
 have ht0:0 < t:=by rw[←hte];exact Nat.div_pos t2 (qAo (by decide))
 obtain⟨ad',rfl,hat'⟩:=ha'.rd h1 (i:=ys.length - 1) (by omega)
 rw[t1] at hat'
 refine cg (fun s:Nat=>⟨[(0,.v (.slice a xs.length c)),(1,.v (.slice (some ad') ys.length c')),(8,.v (.int .i64 s))],[]⟩)
  (fun s h'=>h'=h1∧t*2^s < 65536) (fun s=>65536 - t*2^s) 0 ?_ ⟨rfl,by simpa using t3⟩ ?_
 ·simp(disch:=omega) only[go_sem,ξ,ζ]
 rintro s h2 ⟨rfl,hts⟩
 have hs16:s < 16:=by
  rcases qBj s 16 with h' |h'
  ·exact h'
  ·have h4:=qAv (show 0 < 2 by decide) h'
   have h5:=qAk ht0 h4
   omega
 by_cases hts2:t*2^s < 32768
 ·have e2:t*2^(s+1)=t*2^s*2:=by rw[qAn,←σ]
  have e3:0 < t*2^s:=Nat.mul_pos ht0 (qAo (by decide))
  repeat (first |(refine wo rfl (fun k hk=>?_);simp(disch:=omega) only[go_sem,ξ,ζ,hat'];apply hk;clear hk k) |refine wkt rfl ?_ |refine wk0 ?_ |refine rg rfl rfl (fun K hK=>?_) |refine rd [.o 0,.o 2,.o 3,.o 4,.o 6,.o 1,.o 5,.o 7,.o 8,.o 9] rfl (by decide+kernel) rfl (fun K hK=>?_) |((first |refine ae ?_ |refine ac ?_);simp(disch:=decide) only[qs,qb,if_true,if_false,reduceIte]) |refine ah rfl (fun K hK=>?_) |refine ct rfl ?_ |((try simp(disch:=omega) only[go_sem,ξ,ζ]);(first |apply hK |(clear hK;apply hK) |(clear hK;clear hK;apply hK));clear hK;(try clear K);(try dsimp only[ag,qs,qb])))
  refine⟨s+1,?_,⟨by trivial,by omega⟩,by omega⟩
  simp(disch:=omega) only[go_sem,ξ,ζ]
 have hnl:=norm16 (s:=s) hn (by rw[hys,hte];omega) (by rw[hys,hte];exact hts)
 rw[hys] at hnl
 repeat (first |(refine wo rfl (fun k hk=>?_);simp(disch:=omega) only[go_sem,ξ,ζ,hat'];apply hk;clear hk k) |refine wkt rfl ?_ |refine wk0 ?_ |refine rg rfl rfl (fun K hK=>?_) |refine rd [.o 0,.o 2,.o 3,.o 4,.o 6,.o 1,.o 5,.o 7,.o 8,.o 9] rfl (by decide+kernel) rfl (fun K hK=>?_) |((first |refine ae ?_ |refine ac ?_);simp(disch:=decide) only[qs,qb,if_true,if_false,reduceIte]) |refine ah rfl (fun K hK=>?_) |refine ct rfl ?_ |((try simp(disch:=omega) only[go_sem,ξ,ζ]);(first |apply hK |(clear hK;apply hK) |(clear hK;clear hK;apply hK));clear hK;(try clear K);(try dsimp only[ag,qs,qb])))
 refine cN rfl rfl rfl rfl (by exact gf (n:=s) hw (by omega)) ?_;rintro v3 h3 hs3 hd;(repeat (first |(refine wo rfl (fun k hk=>?_);simp(disch:=omega) only[go_sem,ξ,ζ];apply hk;clear hk k) |refine wkt rfl ?_));(try refine wk0 ?_)
 obtain⟨ad,cd,ds,hde,had,hds,hdm,hd16⟩:=hd.out
 subst hde
 (try (simp(disch:=omega) only[go_sem,ξ,ζ]));apply hK;clear hK;(try clear K);(try dsimp only[ag,qs])
 have hms0:m*2^s≠0:=qBe hm0 (Nat.ne_of_gt (qAo (by decide)))
 have hD0:0 < n*2^s:=Nat.mul_pos (by omega) (qAo (by decide))
 obtain⟨us,hus⟩:∃us,W 65536 (m*2^s)=us:=⟨_,rfl⟩
 have hum:val 65536 us=m*2^s:=by rw[←hus];exact val_W B16 _
 have hu16:∀x∈us,x < 65536:=by rw[←hus];exact W_lt B16 _
 have hyx:ys.length≤xs.length:=by
  rcases qBj xs.length ys.length with h' |h'
  ·have:=lm B16 (m:=m) (n:=n) (by rw[hxs,hys];exact h');omega
  ·exact h'
 have hul:us.length≤xs.length+1:=by
  rw[←hus]
  apply cV B16
  rw[qAn]
  have h5:m < 65536^xs.length:=by rw[←hxs];exact cW B16 m
  have h6:2^s≤32768:=qAv (show 0 < 2 by omega) (show s≤15 by omega)
  exact Nat.lt_of_lt_of_le (Nat.mul_lt_mul_of_pos_right h5 (qAo (by omega))) (ω _ (by omega))
 have hdl:ds.length≤us.length:=by
  rw[←hds,←hus]
  rcases qBj (W 65536 (m*2^s)).length (W 65536 (n*2^s)).length with h' |h'
  ·have:=lm B16 h'
   have:=ψ (2^s) (show n≤m by omega)
   omega
  ·exact h'
 have hdy:ds.length=ys.length:=by rw[←hds];exact hnl
 have hne:us≠[]:=by intro e;rw[e] at hum;exact hms0 hum.symm
 (first |refine rg rfl rfl (fun K hK=>?_) |refine rd [.o 0,.o 2,.o 3,.o 4,.o 6,.o 1,.o 5,.o 7,.o 8,.o 9] rfl (by decide+kernel) rfl (fun K hK=>?_));(repeat (first |(refine wo rfl (fun k hk=>?_);simp(disch:=omega) only[go_sem,ξ,ζ];apply hk;clear hk k) |refine wkt rfl ?_));(try refine wk0 ?_)
 refine wo rfl (fun k hk=>?_);simp(disch:=omega) only[go_sem,ξ,ζ]
 refine call_own (Ez (n:=s) hv hm0 (by omega)) ?_ ?_
 ·rintro h' _ ⟨junk,hj,_⟩
  rw[hus] at hj
  exfalso
  have:=congrArg List.length hj
  simp only[List.length_nil,qAp,uw,List.length_map] at this
  exact hne (List.eq_nil_of_length_eq_zero (by omega))
 rintro row len h4 hs4 hrne ⟨junk,rfl,rfl⟩
 rw[hus]
 apply hk;clear hk k
 have uwz:(uw (List.replicate 1 0)).set 0 (Value.int .u32 0)=uw [0]:=rfl
 (repeat (first |(refine wo rfl (fun k hk=>?_);simp(disch:=omega) only[go_sem,ξ,ζ,uwz];apply hk;clear hk k) |refine wkt rfl ?_));(try refine wk0 ?_)
 refine wo rfl (fun k hk=>?_);simp(disch:=omega) only[go_sem,ξ,ζ,uwz]
 intro jk
 apply hk;clear hk k
 simp only[fB]
 (repeat (first |(refine wo rfl (fun k hk=>?_);simp(disch:=omega) only[go_sem,ξ,ζ];apply hk;clear hk k) |refine wkt rfl ?_));(try refine wk0 ?_)
 (try (simp(disch:=omega) only[go_sem,ξ,ζ]));apply hK;clear hK;(try clear K);(try dsimp only[ag,qs])
 obtain⟨R0,hR0⟩:∃R,us ++[0]=R:=⟨_,rfl⟩
 rw[hR0]
 have hRl:R0.length=us.length+1:=by rw[←hR0];simp
 have hR16:∀x∈R0,x < 65536:=by rw[←hR0];exact gS hu16 (by decide)
 have hRv:val 65536 R0=m*2^s:=by rw[←hR0,fj,hum];simp
 obtain⟨L,hL⟩:∃L,us.length+1 - ds.length=L:=⟨_,rfl⟩
 have hDtop:65536^(ds.length - 1)≤n*2^s:=by
  have:=(W_top B16 (n:=n*2^s) (by omega)).2.1
  rwa[hds] at this
 have hdrop:val 65536 (R0.drop L) < n*2^s:=by
  have e1:R0.drop L=us.drop L ++[0]:=by rw[←hR0,List.drop_append_of_le_length (by omega)]
  rw[e1,fj,Nat.mul_zero,Nat.add_zero]
  have:=iU (B:=65536) (by decide) (us.drop L) (fun x hx=>hu16 x (List.mem_of_mem_drop hx))
  rw[List.length_drop,show us.length - L=ds.length - 1 by omega] at this
  omega
 have hbD:bl (val 65536 ds)≤2^39:=by rw[hdm];have:=cu n s;omega
 repeat (first |((first |refine rg rfl rfl (fun K hK=>?_) |refine rd [.o 0,.o 2,.o 3,.o 4,.o 6,.o 1,.o 5,.o 7,.o 8,.o 9] rfl (by decide+kernel) rfl (fun K hK=>?_));(repeat (first |(refine wo rfl (fun k hk=>?_);simp(disch:=omega) only[go_sem,ξ,ζ];apply hk;clear hk k) |refine wkt rfl ?_));(try refine wk0 ?_);apply hK;clear hK K;(try dsimp only[ag,qs,qb])) |((first |refine ae ?_ |refine ac ?_);simp(disch:=decide) only[qs,qb,if_true,if_false,reduceIte]) |refine ah rfl (fun K hK=>?_) |refine ct rfl ?_ |((first |refine hK _ _ ?_ |(clear hK;refine hK _ _ ?_) |(clear hK;clear hK;refine hK _ _ ?_));clear hK;(try clear K)))
 rw[hL]
 refine eO (fun x:Nat×List Nat×List Nat=>⟨[(8,.v (.int .i64 s)),(9,.v (.slice ad ds.length cd)),(10,.s 0 0 (us.length+1) (us.length+1+jk.length)),(11,.v (.int .i64 ds.length)),(12,.s 1 0 L L),(13,.v (.int .i64 ((x.1:Int) - 1)))],[uw x.2.1 ++jk,uw x.2.2]⟩)
  (fun x h'=>Le h0 h'∧Le h4 h'∧x.1≤L∧x.2.1.length=us.length+1∧x.2.2.length=L∧(∀d∈x.2.1,d < 65536)∧(∀d∈x.2.2,d < 65536)∧val 65536 (x.2.1.drop x.1) < n*2^s∧val 65536 x.2.1+n*2^s*(65536^x.1*val 65536 (x.2.2.drop x.1))=m*2^s) (fun x=>x.1) (L,R0,List.replicate L 0) [2,3] ?_ ⟨?_,?_,by simp,hRl,by simp,hR16,gG (by decide),hdrop,?_⟩ ?_
 ·simp(disch:=omega) only[go_sem,ξ,ζ]
 ·exact inferInstance
 ·exact inferInstance
 ·simp[hRv,val]
 ·rintro⟨k,rs,zs⟩ h5 ⟨hle,hle4,hk,hrl,hql,hrlt,hqlt,hrd,hinv⟩
  dsimp only at hk hrl hql hrlt hqlt hrd hinv ⊢
  have hDB:n*2^s < 65536^ds.length:=by rw[←hdm];exact iU (by decide) ds hd16
  by_cases hk0:k=0
  ·subst hk0
   simp only[List.drop_zero,Nat.pow_zero,qBm] at hrd hinv
   repeat (first |((first |refine rg rfl rfl (fun K hK=>?_) |refine rd [.o 0,.o 2,.o 3,.o 4,.o 6,.o 1,.o 5,.o 7,.o 8,.o 9] rfl (by decide+kernel) rfl (fun K hK=>?_));(repeat (first |(refine wo rfl (fun k hk=>?_);simp(disch:=omega) only[go_sem,ξ,ζ];apply hk;clear hk k) |refine wkt rfl ?_));(try refine wk0 ?_);apply hK;clear hK K;(try dsimp only[ag,qs,qb])) |((first |refine ae ?_ |refine ac ?_);simp(disch:=decide) only[qs,qb,if_true,if_false,reduceIte]) |refine ah rfl (fun K hK=>?_) |refine ct rfl ?_ |((first |refine hK _ _ ?_ |(clear hK;refine hK _ _ ?_) |(clear hK;clear hK;refine hK _ _ ?_));clear hK;(try clear K)))
   refine Ej [.p 1,.p 0,.o 0,.o 2,.o 3,.o 4,.o 6,.o 1,.o 5,.o 7,.o 8,.o 9] (by decide+kernel) rfl (fun K hK=>?_)
   refine wkp ?_;simp(disch:=omega) only[go_sem,ξ,ζ];intro b6 h6 hs6 hb6
   refine wkp ?_;simp(disch:=omega) only[go_sem,ξ,ζ];intro b7 h7 hs7 hb7
   have hA:Arr h6 (some ⟨b6,0,none⟩) L zs:=.of_row (fun hne=>hb6 ((uw_ne _).1 hne)) (fun x hx=>by have:=hqlt x hx;omega) (by omega) (by omega)
   have hB:Arr h7 (some ⟨b7,0,none⟩) (us.length+1+jk.length) rs:=.of_app hb7 hrlt (by omega) (by omega)
   have hmn:m*2^s=n*2^s*val 65536 zs+val 65536 rs:=by omega
   have hq:val 65536 zs=m / n:=by
    have h8:m*2^s / (n*2^s)=val 65536 zs:=by rw[hmn,Nat.mul_add_div hD0,Nat.div_eq_of_lt hrd,Nat.add_zero]
    rw[←h8,Nat.mul_div_mul_right _ _ (qAo (by decide))]
   have hr:val 65536 rs=(m % n)*2^s:=by
    have h8:m*2^s % (n*2^s)=val 65536 rs:=by rw[hmn,Nat.mul_add_mod,qBi hrd]
    rw[←h8,Nat.mul_mod_mul_right]
   have hr2:val 65536 (rs.take ds.length)=(m % n)*2^s:=by
    have h1:=iZ 65536 rs ds.length (by omega)
    rcases Nat.eq_zero_or_pos (val 65536 (rs.drop ds.length)) with h' |h'
    ·rw[h',Nat.mul_zero,Nat.add_zero] at h1;rw[←h1];exact hr
    ·exfalso
     have h2:=Nat.le_mul_of_pos_right (65536^ds.length) h'
     omega
   (repeat (first |(refine wo rfl (fun k hk=>?_);simp(disch:=omega) only[go_sem,ξ,ζ];apply hk;clear hk k) |refine wkt rfl ?_));(try refine wk0 ?_)
   refine cN rfl rfl rfl rfl (by exact nY hA hqlt hql) ?_;rintro v8 h8 hs8 hq8;(repeat (first |(refine wo rfl (fun k hk=>?_);simp(disch:=omega) only[go_sem,ξ,ζ];apply hk;clear hk k) |refine wkt rfl ?_));(try refine wk0 ?_)
   refine cN rfl rfl rfl rfl (by exact nY (L:=ds.length) (hB.take ds.length) (fun x hx=>hrlt x (List.mem_of_mem_take hx)) (by simp;omega)) ?_;rintro v9 h9 hs9 hr9;(repeat (first |(refine wo rfl (fun k hk=>?_);simp(disch:=omega) only[go_sem,ξ,ζ];apply hk;clear hk k) |refine wkt rfl ?_));(try refine wk0 ?_)
   rw[hr2] at hr9
   have hbr:bl (m % n*2^s)≤2^40:=by
    have h10:=cu (m % n) s
    have h11:=aR (Nat.le_of_lt (qBl m (show 0 < n by omega)))
    omega
   refine cN rfl rfl rfl rfl (by exact CD (n:=s) hr9 hbr (by omega)) ?_;rintro v10 h10 hs10 hr10;(repeat (first |(refine wo rfl (fun k hk=>?_);simp(disch:=omega) only[go_sem,ξ,ζ];apply hk;clear hk k) |refine wkt rfl ?_));(try refine wk0 ?_)
   (try (simp(disch:=omega) only[go_sem,ξ,ζ]));apply hK;clear hK;(try clear K);(try dsimp only[ag,qs])
   refine ai ?_;simp(disch:=omega) only[go_sem,ξ,ζ]
   rw[hq] at hq8
   rw[Nat.mul_div_cancel _ (qAo (by decide))] at hr10
   exact⟨_,_,rfl,hq8.to,hr10⟩
  ·obtain⟨k,rfl⟩:∃j,k=j+1:=⟨k - 1,by omega⟩
   have hpre:(rs.take k).length=k:=by simp;omega
   obtain⟨pre,hpe⟩:∃p,rs.take k=p:=⟨_,rfl⟩
   obtain⟨ws,hwe⟩:∃p,rs.drop k=p:=⟨_,rfl⟩
   have hrs:rs=pre ++ws:=by rw[←hpe,←hwe,List.take_append_drop]
   rw[hpe] at hpre
   subst hrs hpre
   clear hpe hwe
   have hpl:(pre ++ws).length=pre.length+ws.length:=qAp
   rw[hpl] at hrl
   have hif:(if us.length+1+jk.length=pre.length then 0 else pre.length)=pre.length:=if_neg (by omega)
   have hsb:pre.length+ds.length+1 - pre.length=ds.length+1:=by omega
   repeat (first |((first |refine rg rfl rfl (fun K hK=>?_) |refine rd [.o 0,.o 2,.o 3,.o 4,.o 6,.o 1,.o 5,.o 7,.o 8,.o 9] rfl (by decide+kernel) rfl (fun K hK=>?_));(repeat (first |(refine wo rfl (fun k hk=>?_);simp(disch:=omega) only[go_sem,ξ,ζ];apply hk;clear hk k) |refine wkt rfl ?_));(try refine wk0 ?_);apply hK;clear hK K;(try dsimp only[ag,qs,qb])) |((first |refine ae ?_ |refine ac ?_);simp(disch:=decide) only[qs,qb,if_true,if_false,reduceIte]) |refine ah rfl (fun K hK=>?_) |refine ct rfl ?_ |((first |refine hK _ _ ?_ |(clear hK;refine hK _ _ ?_) |(clear hK;clear hK;refine hK _ _ ?_));clear hK;(try clear K)))
   (first |refine rg rfl rfl (fun K hK=>?_) |refine rd [.o 0,.o 2,.o 3,.o 4,.o 6,.o 1,.o 5,.o 7,.o 8,.o 9] rfl (by decide+kernel) rfl (fun K hK=>?_));(repeat (first |(refine wo rfl (fun k hk=>?_);simp(disch:=omega) only[go_sem,ξ,ζ,hif,hsb];apply hk;clear hk k) |refine wkt rfl ?_));(try refine wk0 ?_)
   refine wo rfl (fun k hk=>?_);simp(disch:=omega) only[go_sem,ξ,ζ,true_or]
   have hwlt:∀x∈ws,x < 65536:=fun x hx=>hrlt x (qAu.2 (.inr hx))
   have hdr1:(pre ++ws).drop (pre.length+1)=ws.drop 1:=by rw[List.drop_append];simp
   rw[hdr1] at hrd
   have hw0:=aM (by decide) hwlt 0
   have hUB:val 65536 ws < 65536*(n*2^s):=by
    rw[Ec (by omega)]
    have:=ω 65536 (show val 65536 (ws.drop 1)+1≤n*2^s by omega)
    omega
   haveI:Le h3 h5:=⟨hs4.sub.trans hle4.sub⟩
   refine zB 0 rfl ?_ rfl (AK (ys:=ds) (h0:=h3) (a:=ad) (c:=cd) had hd16 (by rw[hdm];exact hds) (by omega) hbD hwlt (by omega) (by omega) (by omega) ?_) ?_
   ·intro e
    have:=congrArg List.length e
    simp only[AS.box,List.getD_cons_zero,uw,List.length_map,qAp,List.length_nil] at this
    omega
   ·rw[hdm];exact Nat.lt_of_le_of_lt (by rw[iZ 65536 ws (ds.length+1) (by omega)];omega) hUB
   ·rintro v row' h6 hs6 ⟨rfl,ws',rfl,hl6,hlt6,hd6,hv6⟩
    simp(disch:=omega) only[go_sem,ξ,ζ]
    have hpl6:(pre ++ws').length=pre.length+ws.length:=by rw[qAp,hl6]
    apply hk;clear hk k
    (repeat (first |(refine wo rfl (fun k hk=>?_);simp(disch:=omega) only[go_sem,ξ,ζ];apply hk;clear hk k) |refine wkt rfl ?_));(try refine wk0 ?_)
    repeat (first |(refine wo rfl (fun k hk=>?_);simp(disch:=omega) only[go_sem,ξ,ζ];apply hk;clear hk k) |refine wkt rfl ?_ |refine wk0 ?_ |((first |refine rg rfl rfl (fun K hK=>?_) |refine rd [.o 0,.o 2,.o 3,.o 4,.o 6,.o 1,.o 5,.o 7,.o 8,.o 9] rfl (by decide+kernel) rfl (fun K hK=>?_));(repeat (first |(refine wo rfl (fun k hk=>?_);simp(disch:=omega) only[go_sem,ξ,ζ];apply hk;clear hk k) |refine wkt rfl ?_ |refine wk0 ?_));(first |apply hK |(clear hK;apply hK) |(clear hK;clear hK;apply hK));clear hK;(try clear K);(try dsimp only[ag,qs,qb])) |((first |refine ae ?_ |refine ac ?_);simp(disch:=decide) only[qs,qb,if_true,if_false,reduceIte]) |refine ah rfl (fun K hK=>?_) |refine ct rfl ?_ |((try simp(disch:=omega) only[go_sem,ξ,ζ]);(first |apply hK |(clear hK;apply hK) |(clear hK;clear hK;apply hK));clear hK;(try clear K);(try dsimp only[ag,qs,qb])))
    rw[hdm] at hv6
    obtain⟨hUw,hw'⟩:=xL (by decide) (show ds.length+1≤ws.length by omega) (show ds.length+1≤ws'.length by omega) hUB hDB hd6 hv6
    rw[hUw,hdm]
    refine⟨(pre.length,pre ++ws',zs.set pre.length (val 65536 ws / (n*2^s))),[0,1],?_,⟨inferInstance,inferInstance,by dsimp only;omega,by dsimp only;omega,by simp[hql],?_,d9 hqlt (by rw[Nat.div_lt_iff_lt_mul hD0];exact hUB),?_,?_⟩,by dsimp only;omega⟩
    ·simp(disch:=omega) only[go_sem,ξ,ζ]
    ·intro x hx
     rcases qAu.1 hx with h' |h'
     ·exact hrlt x (qAu.2 (.inl h'))
     ·exact hlt6 x h'
    ·dsimp only
     rw[List.drop_left,hw'];exact qBl _ hD0
    ·dsimp only
     rw[mJ (xs:=zs.set pre.length _) (by simp[hql];omega),oe (by omega),List.drop_set_of_lt (by omega),val,dD,hw']
     rw[dD,qAn] at hinv
     exact C8 hinv
theorem vr {h0 h:PH} [Le h0 h] {v w:Value} {m n:Nat} (hv:N16 h0 v m) (hw:N16 h0 w n) (bm:bl m≤2^38) (bn:bl n≤2^38):Spec mach 87 #[v,w] h (fun v h'=>N16 h' v (Nat.gcd m n)) NP:=by
 refine Spec.go [] Tryz.func87 rfl rfl (by kernel_rfl) fun C _=>?_
 try simp(maxSteps:=999999) (disch:=omega) only[go_sem,ξ,ζ]
 refine lp [] (fun x:Value×Value×Nat×Nat=>⟨[(0,.v x.1),(1,.v x.2.1)],[]⟩) (fun x h'=>N16 h' x.1 x.2.2.1∧N16 h' x.2.1 x.2.2.2∧bl x.2.2.1≤2^38∧bl x.2.2.2≤2^38∧Nat.gcd x.2.2.1 x.2.2.2=Nat.gcd m n) (fun x=>x.2.2.2) (v,w,m,n) ?_ ⟨hv.to,hw.to,bm,bn,rfl⟩ (by kernel_rfl) ?_
 ·try simp(maxSteps:=999999) (disch:=omega) only[go_sem,ξ,ζ]
 ·rintro⟨va,vb,m',n'⟩ h1 ⟨ha,hb,ba,bb,hg⟩
  dsimp only at ha hb ba bb hg ⊢
  obtain⟨a,c,ys,hbe,hay,hys,hyn,_⟩:=hb.out
  subst hbe
  have hl:=nP B16 (n:=n')
  rw[hys] at hl
  by_cases hn:n'=0
  ·try simp(maxSteps:=999999) (disch:=omega) only[go_sem,ξ,ζ]
   rw[hn,Nat.gcd_zero_right] at hg
   rwa[←hg]
  ·try simp(maxSteps:=999999) (disch:=omega) only[go_sem,ξ,ζ]
   refine caN (by exact dJ ha hb hn ba bb) ?_;rintro v2 h2 hs2 ⟨q,r,rfl,hq,hr⟩
   try simp(maxSteps:=999999) (disch:=omega) only[go_sem,ξ,ζ]
   dsimp only[lpE];refine⟨(_,r,n',m' % n'),?_,⟨hb.to,hr.to,bb,χ (aR (Nat.le_of_lt (qBl _ (by omega)))) bb,?_⟩,qBl _ (by omega)⟩
   ·try simp(maxSteps:=999999) (disch:=omega) only[go_sem,ξ,ζ]
   ·dsimp only
    rw[←hg,Nat.gcd_comm m' n',Nat.gcd_rec n' m',Nat.gcd_comm]
def Qr (h:PH) (v:Value) (x:Rat):Prop:=∃sn sd e,v=.agg #[.bool (decide (x.num < 0)),sn,sd]∧N16 h sn x.num.natAbs∧N16 h sd e∧dz e=x.den
theorem Qr.to {h h':PH} {v:Value} {x:Rat} (r:Qr h v x) [Le h h']:Qr h' v x:=let ⟨a,b,e,h1,h2,h3,h4⟩:=r;⟨a,b,e,h1,h2.to,h3.to,h4⟩
theorem Qr.sl {h:PH} {v:Value} {x:Rat} (r:Qr h v x):∃na nl nc da dl dc e,v=.agg #[.bool (decide (x.num < 0)),.slice na nl nc,.slice da dl dc]∧N16 h (.slice na nl nc) x.num.natAbs∧N16 h (.slice da dl dc) e∧dz e=x.den:=by
 obtain⟨sn,sd,e,rfl,h2,h3,h4⟩:=r
 obtain⟨na,nl,nc,rfl,h2⟩:=h2.sl
 obtain⟨da,dl,dc,rfl,h3⟩:=h3.sl
 exact⟨_,_,_,_,_,_,e,rfl,h2,h3,h4⟩
theorem Qr.sa {h:PH} {v:Value} {x:Rat} (r:Qr h v x):∃b na nl nc da dl dc,v=.agg #[.bool b,.slice na nl nc,.slice da dl dc]∧Qr h (.agg #[.bool b,.slice na nl nc,.slice da dl dc]) x:=by
 obtain⟨_,_,_,_,_,_,_,rfl,_⟩:=r.sl
 exact⟨_,_,_,_,_,_,_,rfl,r⟩
theorem my {d:Nat} (h:d≠0):dz d=d:=by unfold dz;rw[if_neg h]
theorem Qr.of {h:PH} {neg:Bool} {n d:Nat} {sn sd:Value} {x:Rat} (hn:N16 h sn n) (hd:N16 h sd d) (h0:n≠0) (hd0:d≠0) (hc:Nat.gcd n d=1) (hx:x=sgn neg n d):Qr h (.agg #[.bool neg,sn,sd]) x:=by
 obtain⟨h1,h2⟩:=rf (neg:=neg) hd0 hc
 rw[←hx] at h1 h2
 refine⟨sn,sd,d,?_,?_,hd,by rw[h2,my hd0]⟩
 ·have:decide (x.num < 0)=neg:=by rw[h1];cases neg<;>simp<;>omega
  rw[this]
 ·have:x.num.natAbs=n:=by rw[h1];cases neg<;>simp
  rw[this];exact hn
theorem Qr.zero {h:PH} {sd:Value} {e:Nat} (hd:N16 h sd e) (he:dz e=1):Qr h (.agg #[.bool false,.slice none 0 0,sd]) 0:=⟨.slice none 0 0,sd,e,by simp,by simpa using N16.zero h,hd,by simpa using he⟩
theorem Qr.none (h:PH):Qr h (.agg #[.bool false,.slice none 0 0,.slice none 0 0]) 0:=Qr.zero (N16.zero h) (by simp[dz])
theorem N16.len0 {h:PH} {a:Option Addr} {l c n:Nat} (r:N16 h (.slice a l c) n):l=0↔n=0:=by
 obtain⟨a',c',h1,_⟩:=r
 cases h1
 exact nP B16
theorem sgn_den0 (neg:Bool) (n:Nat):sgn neg n 0=0:=by simp[sgn]
theorem Ai {h0 h:PH} [Le h0 h] {neg:Bool} {v w:Value} {n:Nat} (hv:N16 h0 v n) (hw:N16 h0 w 1) (bn:bl n≤2^38):
  Spec mach 50 #[.bool neg,v,w] h (fun v h'=>Qr h' v (sgn neg n 1)) NP:=by
 obtain⟨va,vc,xs,rfl,hva,hxs,hxm,hx16⟩:=hv.out
 obtain⟨wa,wc,ys,rfl,hwa,hys,hym,hy16⟩:=hw.out
 have lv:=hv.len0
 have sx:xs.length≤2^38:=by have:=cr n;rw[hxs] at this;omega
 have hl:ys.length=1:=by rw[←hys,W_one B16];rfl
 obtain⟨ad,rfl,hat⟩:=hwa.rd0 h (by omega)
 have e1:ys.getD 0 0=1:=by rw[←hys,W_one B16];rfl
 rw[e1,nc1] at hat
 refine Spec.enter (args:=[_,_,_]) (n:=56) Tryz.func50 rfl (by kernel_rfl) rfl (by simp) [.cell 6 60] rfl (fun C _=>?_)
 by_cases hn:n=0
 ·rw[hn,ov]
  repeat (first |(refine wo rfl (fun k hk=>?_);simp(disch:=omega) only[go_sem,ξ,ζ];apply hk;clear hk k) |refine wkt rfl ?_ |refine wk0 ?_ |refine rg rfl rfl (fun K hK=>?_) |((first |refine ae ?_ |refine ac ?_);simp(disch:=decide) only[qs,qb,if_true,if_false,reduceIte]) |refine ah rfl (fun K hK=>?_) |refine ct rfl ?_ |((try simp(disch:=omega) only[go_sem,ξ,ζ]);(first |apply hK |(clear hK;apply hK) |(clear hK;clear hK;apply hK));clear hK;(try clear K);(try dsimp only[ag,qs,qb])))
  refine cN rfl rfl rfl rfl (by exact bQ (n:=1) (by decide)) ?_;rintro v1 h1 s1 hv1;obtain⟨va1,vl1,vc1,rfl,hv1⟩:=hv1.sl;(repeat (first |(refine wo rfl (fun k hk=>?_);simp(disch:=omega) only[go_sem,ξ,ζ];apply hk;clear hk k) |refine wkt rfl ?_));(try refine wk0 ?_)
  (try (simp(disch:=omega) only[go_sem,ξ,ζ]));apply hK;clear hK;(try clear K);(try dsimp only[ag,qs])
  refine ai ?_;simp(disch:=omega) only[go_sem,ξ,ζ]
  exact Qr.zero hv1 (by decide)
 ·repeat (first |(refine rg rfl rfl (fun K hK=>?_);(repeat (first |(refine wo rfl (fun k hk=>?_);simp(disch:=omega) only[go_sem,ξ,ζ,hat];apply hk;clear hk k) |refine wkt rfl ?_));(try refine wk0 ?_);apply hK;clear hK K;(try dsimp only[ag,qs,qb])) |((first |refine ae ?_ |refine ac ?_);simp(disch:=decide) only[qs,qb,if_true,if_false,reduceIte]) |refine ah rfl (fun K hK=>?_) |refine ct rfl ?_ |((first |refine hK _ _ ?_ |(clear hK;refine hK _ _ ?_) |(clear hK;clear hK;refine hK _ _ ?_));clear hK;(try clear K)))
  refine fk [.o 0,.o 1,.o 2,.o 3,.p 2,.o 4,.o 5,.o 6] rfl rfl (fun K hK=>?_);(repeat (first |(refine wo rfl (fun k hk=>?_);simp(disch:=omega) only[go_sem,ξ,ζ];apply hk;clear hk k) |refine wkt rfl ?_));(try refine wk0 ?_)
  refine wo rfl (fun k hk=>?_);simp(disch:=omega) only[go_sem,ξ,ζ]
  refine⟨uw xs,by simp[uw],fun hne=>?_,uV xs,fun junk=>?_⟩
  ·obtain⟨ad',h3,h4⟩:=hva.cells h hne
   exact⟨ad',h3,h4⟩
  apply hk;clear hk k
  refine wkp ?_;simp(disch:=omega) only[go_sem,ξ,ζ];intro b h2 hs2 hb;(repeat (first |(refine wo rfl (fun k hk=>?_);simp(disch:=omega) only[go_sem,ξ,ζ];apply hk;clear hk k) |refine wkt rfl ?_));(try refine wk0 ?_)
  have hA:N16 h2 (.slice (some ⟨b,0,none⟩) xs.length (xs.length+junk.length)) n:=N16.of_pub hb hxs (by omega) rfl (by omega)
  refine cN rfl rfl rfl rfl (by exact bQ (n:=1) (by decide)) ?_;rintro v1 h1 s1 hv1;obtain⟨va1,vl1,vc1,rfl,hv1⟩:=hv1.sl;(repeat (first |(refine wo rfl (fun k hk=>?_);simp(disch:=omega) only[go_sem,ξ,ζ];apply hk;clear hk k) |refine wkt rfl ?_));(try refine wk0 ?_)
  (try (simp(disch:=omega) only[go_sem,ξ,ζ]));apply hK;clear hK;(try clear K);(try dsimp only[ag,qs])
  refine ai ?_;simp(disch:=omega) only[go_sem,ξ,ζ]
  exact Qr.of hA.to hv1 hn (by decide) (by simp) rfl
theorem fQ {h0 h:PH} [Le h0 h] {neg:Bool} {v w:Value} {n d:Nat} (hv:N16 h0 v n) (hw:N16 h0 w d) (bn:bl n≤2^38) (bd:bl d≤2^38):
  Spec mach 50 #[.bool neg,v,w] h (fun v h'=>Qr h' v (sgn neg n d)) NP:=by
 by_cases hd1:d=1
 ·subst hd1;exact Ai hv hw bn
 obtain⟨va,vc,xs,rfl,hva,hxs,hxm,hx16⟩:=hv.out
 obtain⟨wa,wc,ys,rfl,hwa,hys,hym,hy16⟩:=hw.out
 have lv:=hv.len0
 have lw:=hw.len0
 have sx:xs.length≤2^38:=by have:=cr n;rw[hxs] at this;omega
 have sy:=hwa.small
 refine Spec.enter (args:=[_,_,_]) (n:=56) Tryz.func50 rfl (by kernel_rfl) rfl (by simp) [.cell 6 60] rfl (fun C _=>?_)
 by_cases hz:n=0∨d=0
 ·have e0:sgn neg n d=0:=by
   rcases hz with rfl |rfl
   ·exact ov _ _
   ·exact sgn_den0 _ _
  rw[e0]
  by_cases hn:n=0
  ·repeat (first |(refine wo rfl (fun k hk=>?_);simp(disch:=omega) only[go_sem,ξ,ζ];apply hk;clear hk k) |refine wkt rfl ?_ |refine wk0 ?_ |refine rg rfl rfl (fun K hK=>?_) |((first |refine ae ?_ |refine ac ?_);simp(disch:=decide) only[qs,qb,if_true,if_false,reduceIte]) |refine ah rfl (fun K hK=>?_) |refine ct rfl ?_ |((try simp(disch:=omega) only[go_sem,ξ,ζ]);(first |apply hK |(clear hK;apply hK) |(clear hK;clear hK;apply hK));clear hK;(try clear K);(try dsimp only[ag,qs,qb])))
   refine cN rfl rfl rfl rfl (by exact bQ (n:=1) (by decide)) ?_;rintro v1 h1 s1 hv1;obtain⟨va1,vl1,vc1,rfl,hv1⟩:=hv1.sl;(repeat (first |(refine wo rfl (fun k hk=>?_);simp(disch:=omega) only[go_sem,ξ,ζ];apply hk;clear hk k) |refine wkt rfl ?_));(try refine wk0 ?_)
   (try (simp(disch:=omega) only[go_sem,ξ,ζ]));apply hK;clear hK;(try clear K);(try dsimp only[ag,qs])
   refine ai ?_;simp(disch:=omega) only[go_sem,ξ,ζ]
   exact Qr.zero hv1 (by decide)
  ·have hd:d=0:=hz.resolve_left hn
   repeat (first |(refine wo rfl (fun k hk=>?_);simp(disch:=omega) only[go_sem,ξ,ζ];apply hk;clear hk k) |refine wkt rfl ?_ |refine wk0 ?_ |refine rg rfl rfl (fun K hK=>?_) |((first |refine ae ?_ |refine ac ?_);simp(disch:=decide) only[qs,qb,if_true,if_false,reduceIte]) |refine ah rfl (fun K hK=>?_) |refine ct rfl ?_ |((try simp(disch:=omega) only[go_sem,ξ,ζ]);(first |apply hK |(clear hK;apply hK) |(clear hK;clear hK;apply hK));clear hK;(try clear K);(try dsimp only[ag,qs,qb])))
   refine cN rfl rfl rfl rfl (by exact bQ (n:=1) (by decide)) ?_;rintro v1 h1 s1 hv1;obtain⟨va1,vl1,vc1,rfl,hv1⟩:=hv1.sl;(repeat (first |(refine wo rfl (fun k hk=>?_);simp(disch:=omega) only[go_sem,ξ,ζ];apply hk;clear hk k) |refine wkt rfl ?_));(try refine wk0 ?_)
   (try (simp(disch:=omega) only[go_sem,ξ,ζ]));apply hK;clear hK;(try clear K);(try dsimp only[ag,qs])
   refine ai ?_;simp(disch:=omega) only[go_sem,ξ,ζ]
   exact Qr.zero hv1 (by decide)
 have hn:n≠0:=fun e=>hz (.inl e)
 have hd:d≠0:=fun e=>hz (.inr e)
 have hnot:¬(ys.length=1∧ys.getD 0 0=1):=by
  rintro⟨e1,e2⟩
  obtain⟨_,h2⟩:=xr B16 (n:=d) (by rw[hys];exact e1)
  rw[hys,e2] at h2
  exact hd1 h2.symm
 obtain⟨hg1,hg2,hg3,hg4⟩:=HO hn hd
 have hg0:0 < Nat.gcd n d:=Nat.gcd_pos_of_pos_left _ (by omega)
 have b3:bl (Nat.gcd n d)≤2^38:=χ (aR (Nat.gcd_le_left d (by omega))) bn
 have hsg:=BK (neg:=neg) hd hg2 hg3
 by_cases hl:ys.length=1
 ·obtain⟨ad,rfl,hat⟩:=hwa.rd0 h (by omega)
  have hne1:¬ys.getD 0 0=1:=fun e=>hnot ⟨hl,e⟩
  repeat (first |(refine wo rfl (fun k hk=>?_);simp(disch:=omega) only[go_sem,ξ,ζ,hat];apply hk;clear hk k) |refine wkt rfl ?_ |refine wk0 ?_ |refine rg rfl rfl (fun K hK=>?_) |((first |refine ae ?_ |refine ac ?_);simp(disch:=decide) only[qs,qb,if_true,if_false,reduceIte]) |refine ah rfl (fun K hK=>?_) |refine ct rfl ?_ |((try simp(disch:=omega) only[go_sem,ξ,ζ]);(first |apply hK |(clear hK;apply hK) |(clear hK;clear hK;apply hK));clear hK;(try clear K);(try dsimp only[ag,qs,qb])))
  refine cN rfl rfl rfl rfl (by exact vr hv hw bn bd) ?_;rintro v1 h1 s1 hv1;obtain⟨va1,vl1,vc1,rfl,hv1⟩:=hv1.sl;(repeat (first |(refine wo rfl (fun k hk=>?_);simp(disch:=omega) only[go_sem,ξ,ζ];apply hk;clear hk k) |refine wkt rfl ?_));(try refine wk0 ?_)
  (try (simp(disch:=omega) only[go_sem,ξ,ζ]));apply hK;clear hK;(try clear K);(try dsimp only[ag,qs])
  refine rg rfl rfl (fun K hK=>?_);(repeat (first |(refine wo rfl (fun k hk=>?_);simp(disch:=omega) only[go_sem,ξ,ζ];apply hk;clear hk k) |refine wkt rfl ?_));(try refine wk0 ?_)
  refine cN rfl rfl rfl rfl (by exact dJ (hv.to (h':=h1)) hv1 (by omega) (by omega) (by omega)) ?_;rintro v2 h2 s2 ⟨q1,r1,rfl,hq1,hr1⟩;obtain⟨qa,ql,qc,rfl,hq1⟩:=hq1.sl;(repeat (first |(refine wo rfl (fun k hk=>?_);simp(disch:=omega) only[go_sem,ξ,ζ];apply hk;clear hk k) |refine wkt rfl ?_));(try refine wk0 ?_)
  (try (simp(disch:=omega) only[go_sem,ξ,ζ]));apply hK;clear hK;(try clear K);(try dsimp only[ag,qs])
  refine rg rfl rfl (fun K hK=>?_);(repeat (first |(refine wo rfl (fun k hk=>?_);simp(disch:=omega) only[go_sem,ξ,ζ];apply hk;clear hk k) |refine wkt rfl ?_));(try refine wk0 ?_)
  refine cN rfl rfl rfl rfl (by exact dJ (hw.to (h':=h1)) hv1 (by omega) (by omega) (by omega)) ?_;rintro v3 h3 s3 ⟨q2,r2,rfl,hq2,hr2⟩;obtain⟨qa2,ql2,qc2,rfl,hq2⟩:=hq2.sl
  repeat (first |(refine wo rfl (fun k hk=>?_);simp(disch:=omega) only[go_sem,ξ,ζ];apply hk;clear hk k) |refine wkt rfl ?_ |refine wk0 ?_ |refine rg rfl rfl (fun K hK=>?_) |((first |refine ae ?_ |refine ac ?_);simp(disch:=decide) only[qs,qb,if_true,if_false,reduceIte]) |refine ah rfl (fun K hK=>?_) |refine ct rfl ?_ |((try simp(disch:=omega) only[go_sem,ξ,ζ]);(first |apply hK |(clear hK;apply hK) |(clear hK;clear hK;apply hK));clear hK;(try clear K);(try dsimp only[ag,qs,qb])))
  refine ai ?_;simp(disch:=omega) only[go_sem,ξ,ζ]
  exact Qr.of hq1.to hq2.to hg1 hg2 hg4 hsg
 ·repeat (first |(refine wo rfl (fun k hk=>?_);simp(disch:=omega) only[go_sem,ξ,ζ];apply hk;clear hk k) |refine wkt rfl ?_ |refine wk0 ?_ |refine rg rfl rfl (fun K hK=>?_) |((first |refine ae ?_ |refine ac ?_);simp(disch:=decide) only[qs,qb,if_true,if_false,reduceIte]) |refine ah rfl (fun K hK=>?_) |refine ct rfl ?_ |((try simp(disch:=omega) only[go_sem,ξ,ζ]);(first |apply hK |(clear hK;apply hK) |(clear hK;clear hK;apply hK));clear hK;(try clear K);(try dsimp only[ag,qs,qb])))
  refine cN rfl rfl rfl rfl (by exact vr hv hw bn bd) ?_;rintro v1 h1 s1 hv1;obtain⟨va1,vl1,vc1,rfl,hv1⟩:=hv1.sl;(repeat (first |(refine wo rfl (fun k hk=>?_);simp(disch:=omega) only[go_sem,ξ,ζ];apply hk;clear hk k) |refine wkt rfl ?_));(try refine wk0 ?_)
  (try (simp(disch:=omega) only[go_sem,ξ,ζ]));apply hK;clear hK;(try clear K);(try dsimp only[ag,qs])
  refine rg rfl rfl (fun K hK=>?_);(repeat (first |(refine wo rfl (fun k hk=>?_);simp(disch:=omega) only[go_sem,ξ,ζ];apply hk;clear hk k) |refine wkt rfl ?_));(try refine wk0 ?_)
  refine cN rfl rfl rfl rfl (by exact dJ (hv.to (h':=h1)) hv1 (by omega) (by omega) (by omega)) ?_;rintro v2 h2 s2 ⟨q1,r1,rfl,hq1,hr1⟩;obtain⟨qa,ql,qc,rfl,hq1⟩:=hq1.sl;(repeat (first |(refine wo rfl (fun k hk=>?_);simp(disch:=omega) only[go_sem,ξ,ζ];apply hk;clear hk k) |refine wkt rfl ?_));(try refine wk0 ?_)
  (try (simp(disch:=omega) only[go_sem,ξ,ζ]));apply hK;clear hK;(try clear K);(try dsimp only[ag,qs])
  refine rg rfl rfl (fun K hK=>?_);(repeat (first |(refine wo rfl (fun k hk=>?_);simp(disch:=omega) only[go_sem,ξ,ζ];apply hk;clear hk k) |refine wkt rfl ?_));(try refine wk0 ?_)
  refine cN rfl rfl rfl rfl (by exact dJ (hw.to (h':=h1)) hv1 (by omega) (by omega) (by omega)) ?_;rintro v3 h3 s3 ⟨q2,r2,rfl,hq2,hr2⟩;obtain⟨qa2,ql2,qc2,rfl,hq2⟩:=hq2.sl
  repeat (first |(refine wo rfl (fun k hk=>?_);simp(disch:=omega) only[go_sem,ξ,ζ];apply hk;clear hk k) |refine wkt rfl ?_ |refine wk0 ?_ |refine rg rfl rfl (fun K hK=>?_) |((first |refine ae ?_ |refine ac ?_);simp(disch:=decide) only[qs,qb,if_true,if_false,reduceIte]) |refine ah rfl (fun K hK=>?_) |refine ct rfl ?_ |((try simp(disch:=omega) only[go_sem,ξ,ζ]);(first |apply hK |(clear hK;apply hK) |(clear hK;clear hK;apply hK));clear hK;(try clear K);(try dsimp only[ag,qs,qb])))
  refine ai ?_;simp(disch:=omega) only[go_sem,ξ,ζ]
  exact Qr.of hq1.to hq2.to hg1 hg2 hg4 hsg
theorem dU {h0 h:PH} [Le h0 h] {v:Value} {x:Rat} (hx:Qr h0 v x):Spec mach 257 #[v] h (fun v h'=>N16 h' v x.den) NP:=by
 obtain⟨na,nl,nc,da,dl,dc,e,rfl,hn,hd,he⟩:=hx.sl
 have ld:=hd.len0
 refine Spec.go [] Tryz.func257 rfl rfl (by kernel_rfl) fun C _=>?_
 try simp(maxSteps:=999999) (disch:=omega) only[go_sem,ξ,ζ]
 by_cases h0:e=0
 ·try simp(maxSteps:=999999) (disch:=omega) only[go_sem,ξ,ζ]
  refine caN (by exact bQ (n:=1) (by decide)) ?_;rintro v1 h1 s1 hv1
  try simp(maxSteps:=999999) (disch:=omega) only[go_sem,ξ,ζ]
  rw[←he,h0];exact hv1
 ·try simp(maxSteps:=999999) (disch:=omega) only[go_sem,ξ,ζ]
  rw[←he,my h0];exact hd.to
theorem sC {h0 h:PH} [Le h0 h] {v:Value} {x:Rat} (hx:Qr h0 v x):Spec mach 49 #[v] h (fun v _=>v=.bool (decide (x.den=1))) NP:=by
 obtain⟨na,nl,nc,da,dl,dc,e,rfl,hn,hd,he⟩:=hx.sl
 obtain⟨da',c',ys,hde,hya,hys,hym,hy16⟩:=hd.out
 cases hde
 have ld:=hd.len0
 have sy:=hya.small
 rw[←he]
 refine Spec.enter (args:=[_]) (n:=20) Tryz.func49 rfl (by kernel_rfl) rfl (by simp) [.tmp 2] rfl (fun C _=>?_)
 by_cases h0:e=0
 ·repeat (first |(refine wo rfl (fun k hk=>?_);simp(disch:=omega) only[go_sem,ξ,ζ];apply hk;clear hk k) |refine wkt rfl ?_ |refine wk0 ?_ |refine rg rfl rfl (fun K hK=>?_) |((first |refine ae ?_ |refine ac ?_);simp(disch:=decide) only[qs,qb,if_true,if_false,reduceIte]) |refine ah rfl (fun K hK=>?_) |refine ct rfl ?_ |((try simp(disch:=omega) only[go_sem,ξ,ζ]);(first |apply hK |(clear hK;apply hK) |(clear hK;clear hK;apply hK));clear hK;(try clear K);(try dsimp only[ag,qs,qb])))
  refine ai ?_;simp(disch:=omega) only[go_sem,ξ,ζ]
  simp[h0,dz]
 ·rw[my h0]
  by_cases hl:ys.length=1
  ·obtain⟨ad,rfl,hat⟩:=hya.rd0 h (by omega)
   obtain⟨_,h2⟩:=xr B16 (n:=e) (by rw[hys];exact hl)
   rw[hys] at h2
   rw[h2] at hat
   by_cases h1:e=1
   ·repeat (first |(refine wo rfl (fun k hk=>?_);simp(disch:=omega) only[go_sem,ξ,ζ,hat];apply hk;clear hk k) |refine wkt rfl ?_ |refine wk0 ?_ |refine rg rfl rfl (fun K hK=>?_) |((first |refine ae ?_ |refine ac ?_);simp(disch:=decide) only[qs,qb,if_true,if_false,reduceIte]) |refine ah rfl (fun K hK=>?_) |refine ct rfl ?_ |((try simp(disch:=omega) only[go_sem,ξ,ζ]);(first |apply hK |(clear hK;apply hK) |(clear hK;clear hK;apply hK));clear hK;(try clear K);(try dsimp only[ag,qs,qb])))
    refine ai ?_;simp(disch:=omega) only[go_sem,ξ,ζ]
    all_goals simp[h1]
   ·repeat (first |(refine wo rfl (fun k hk=>?_);simp(disch:=omega) only[go_sem,ξ,ζ,hat];apply hk;clear hk k) |refine wkt rfl ?_ |refine wk0 ?_ |refine rg rfl rfl (fun K hK=>?_) |((first |refine ae ?_ |refine ac ?_);simp(disch:=decide) only[qs,qb,if_true,if_false,reduceIte]) |refine ah rfl (fun K hK=>?_) |refine ct rfl ?_ |((try simp(disch:=omega) only[go_sem,ξ,ζ]);(first |apply hK |(clear hK;apply hK) |(clear hK;clear hK;apply hK));clear hK;(try clear K);(try dsimp only[ag,qs,qb])))
    refine ai ?_;simp(disch:=omega) only[go_sem,ξ,ζ]
    all_goals simp[h1]
  ·have h1:e≠1:=by rintro rfl;rw[W_one B16] at hys;rw[←hys] at hl;exact hl rfl
   repeat (first |(refine wo rfl (fun k hk=>?_);simp(disch:=omega) only[go_sem,ξ,ζ];apply hk;clear hk k) |refine wkt rfl ?_ |refine wk0 ?_ |refine rg rfl rfl (fun K hK=>?_) |((first |refine ae ?_ |refine ac ?_);simp(disch:=decide) only[qs,qb,if_true,if_false,reduceIte]) |refine ah rfl (fun K hK=>?_) |refine ct rfl ?_ |((try simp(disch:=omega) only[go_sem,ξ,ζ]);(first |apply hK |(clear hK;apply hK) |(clear hK;clear hK;apply hK));clear hK;(try clear K);(try dsimp only[ag,qs,qb])))
   refine ai ?_;simp(disch:=omega) only[go_sem,ξ,ζ]
   all_goals simp[h1]
theorem aF {h:PH} {n:Int} (h1: -9223372036854775808≤n) (h2:n≤9223372036854775807):Spec mach 21 #[.int .i64 n] h (fun v h'=>Qr h' v (n:Rat)) NP:=by
 by_cases hn:n < 0
 ·obtain⟨m,rfl⟩:∃m:Nat,n= -((m+1:Nat):Int):=⟨n.natAbs - 1,by omega⟩
  have e1:IntKind.i64.wrap (-((m+1:Nat):Int)+1)= -(m:Int):=by rw[wi64 (by omega) (by omega)];omega
  have e2:IntKind.i64.wrap (0 - -(m:Int))=(m:Int):=by rw[wi64 (by omega) (by omega)];omega
  refine Spec.go [] Tryz.func21 rfl rfl (by kernel_rfl) fun C _=>?_
  try simp(maxSteps:=999999) (disch:=omega) only[go_sem,ξ,ζ,e1,e2]
  refine caN (by exact bQ (n:=m+1) (by omega)) ?_;rintro v1 h3 s3 hv1;obtain⟨va1,vl1,vc1,rfl,hv1⟩:=hv1.sl
  try simp(maxSteps:=999999) (disch:=omega) only[go_sem,ξ,ζ]
  refine caN (by exact bQ (n:=1) (by decide)) ?_;rintro v2 h4 s4 hv2;obtain⟨va2,vl2,vc2,rfl,hv2⟩:=hv2.sl
  try simp(maxSteps:=999999) (disch:=omega) only[go_sem,ξ,ζ]
  refine caN (by exact Ai (neg:=true) (hv1.to (h':=h4)) hv2 (χ (bl_le.2 (show m+1 < 2^64 by omega)) (by decide))) ?_;rintro _ h5 _ hv5;obtain⟨_,_,_,_,_,_,_,rfl,hv5⟩:=hv5.sa
  try simp(maxSteps:=999999) (disch:=omega) only[go_sem,ξ,ζ]
  have:sgn true (m+1) 1=((-((m+1:Nat):Int):Int):Rat):=by rw[tQ];simp
  rw[this] at hv5;exact hv5
 ·obtain⟨m,rfl⟩:∃m:Nat,n=(m:Int):=⟨n.natAbs,by omega⟩
  refine Spec.go [] Tryz.func21 rfl rfl (by kernel_rfl) fun C _=>?_
  try simp(maxSteps:=999999) (disch:=omega) only[go_sem,ξ,ζ]
  refine caN (by exact bQ (n:=m) (by omega)) ?_;rintro v1 h3 s3 hv1;obtain⟨va1,vl1,vc1,rfl,hv1⟩:=hv1.sl
  try simp(maxSteps:=999999) (disch:=omega) only[go_sem,ξ,ζ]
  refine caN (by exact bQ (n:=1) (by decide)) ?_;rintro v2 h4 s4 hv2;obtain⟨va2,vl2,vc2,rfl,hv2⟩:=hv2.sl
  try simp(maxSteps:=999999) (disch:=omega) only[go_sem,ξ,ζ]
  refine caN (by exact Ai (neg:=false) (hv1.to (h':=h4)) hv2 (χ (bl_le.2 (show m < 2^64 by omega)) (by decide))) ?_;rintro _ h5 _ hv5;obtain⟨_,_,_,_,_,_,_,rfl,hv5⟩:=hv5.sa
  try simp(maxSteps:=999999) (disch:=omega) only[go_sem,ξ,ζ]
  have:sgn false m 1=(((m:Nat):Int):Rat):=by rw[tQ];simp
  rw[this] at hv5;exact hv5
def jR:List Nat→List Nat
 |[]=>[]
 |x :: xs=>x % 65536 :: x / 65536 :: jR xs
theorem yM:∀xs:List Nat,val 65536 (jR xs)=val 4294967296 xs
 |[]=>rfl
 | x :: xs=>by
  simp only[jR,val,yM xs]
  omega
theorem uH:∀{xs:List Nat},(∀x∈xs,x < 4294967296)→∀d∈jR xs,d < 65536
 |[],_,d,hd=>by cases hd
 | x :: xs,h,d,hd=>by
  have hx:=h x (qAt ..)
  simp only[jR,List.mem_cons] at hd
  rcases hd with rfl |rfl |hd
  ·omega
  ·omega
  ·exact uH (fun y hy=>h y (List.mem_cons_of_mem _ hy)) d hd
theorem rW:∀xs:List Nat,(jR xs).length=2*xs.length
 |[]=>rfl
 |x :: xs=>by simp only[jR,List.length_cons,rW xs];omega
theorem vF:∀(xs:List Nat) (x:Nat),jR (xs ++[x])=jR xs ++[x % 65536,x / 65536]
 |[],x=>rfl
 |y :: xs,x=>by simp only[List.cons_append,jR,vF xs x]
theorem jC {xs:List Nat} {k:Nat} (h:k < xs.length):xs.take (k+1)=xs.take k ++[xs.getD k 0]:=by
 rw[List.take_succ_eq_append_getElem h];simp[h]
theorem uw_two (ds:List Nat) (c d:Nat) (jk:List Value):uw ds ++(uw [c,d] ++jk)=uw (ds ++[c,d]) ++jk:=by simp[uw]
@[go_sem] theorem uw_mk2 (c d:Nat): [Value.int .u32 (c:Nat),Value.int .u32 (d:Nat)]=uw [c,d]:=rfl
@[go_sem] theorem spl2 (c d:Nat):spl (spl [Value.int .u32 0,Value.int .u32 0] 0 (uw [c])) 1 (uw [d])=uw [c,d]:=rfl
@[go_sem] theorem take2 (c d:Nat):(uw [c,d]).take 2=uw [c,d]:=rfl
theorem Gf {h0 h:PH} [Le h0 h] {a:Option Addr} {c:Nat} {xs:List Nat} (ha:Arr h0 a c xs) (hs:xs.length≤2^40):
  Spec mach 72 #[.slice a xs.length c] h (fun v h'=>N16 h' v (val 4294967296 xs)) NP:=by
 refine Spec.enter (args:=[_]) (n:=22) Tryz.func72 rfl (by kernel_rfl) rfl (by simp) [.tmp 2] rfl (fun C _=>?_)
 repeat (first |(refine wo rfl (fun k hk=>?_);simp(disch:=omega) only[go_sem,ξ,ζ];apply hk;clear hk k) |refine wkt rfl ?_ |refine wk0 ?_ |refine rg rfl rfl (fun K hK=>?_) |((first |refine ae ?_ |refine ac ?_);simp(disch:=decide) only[qs,qb,if_true,if_false,reduceIte]) |refine ah rfl (fun K hK=>?_) |refine ct rfl ?_ |((try simp(disch:=omega) only[go_sem,ξ,ζ]);(first |apply hK |(clear hK;apply hK) |(clear hK;clear hK;apply hK));clear hK;(try clear K);(try dsimp only[ag,qs,qb])))
 refine eO (fun x:Nat ⊕ (Nat×List Value)=>match x with
   |.inl _=>⟨[(3,.v (.slice none 0 0)),(6,.v (.slice a xs.length c)),(7,.v (.int .i64 xs.length)),(8,.v (.int .i64 0))],[]⟩
   |.inr (k,jk)=>⟨[(3,.s 0 0 (2*k) (2*k+jk.length)),(6,.v (.slice a xs.length c)),(7,.v (.int .i64 xs.length)),(8,.v (.int .i64 k))],[uw (jR (xs.take k)) ++jk]⟩)
  (fun x h'=>Le h0 h'∧match x with
   |.inl _=>True
   |.inr (k,_)=>k≤xs.length)
  (fun x=>match x with
   |.inl _=>xs.length+1
   |.inr (k,_)=>xs.length - k) (.inl 0) [] ?_ ⟨inferInstance,trivial⟩ ?_
 ·simp(disch:=omega) only[go_sem,ξ,ζ]
 ·rintro(r |⟨i,jk⟩) h1 ⟨hle,hi⟩
  ·dsimp only at hi ⊢
   by_cases hx0:xs.length=0
   ·repeat (first |(refine wo rfl (fun k hk=>?_);simp(disch:=omega) only[go_sem,ξ,ζ];apply hk;clear hk k) |refine wkt rfl ?_ |refine wk0 ?_ |refine rg rfl rfl (fun K hK=>?_) |((first |refine ae ?_ |refine ac ?_);simp(disch:=decide) only[qs,qb,if_true,if_false,reduceIte]) |refine ah rfl (fun K hK=>?_) |refine ct rfl ?_ |((try simp(disch:=omega) only[go_sem,ξ,ζ]);(first |apply hK |(clear hK;apply hK) |(clear hK;clear hK;apply hK));clear hK;(try clear K);(try dsimp only[ag,qs,qb])))
    have hA:Arr h1 none 0 []:=Arr.nil h1
    refine cN rfl rfl rfl rfl (by exact nY (L:=0) hA (by simp) rfl) ?_;rintro v2 h2 s2 hv2;(repeat (first |(refine wo rfl (fun k hk=>?_);simp(disch:=omega) only[go_sem,ξ,ζ];apply hk;clear hk k) |refine wkt rfl ?_));(try refine wk0 ?_)
    (try (simp(disch:=omega) only[go_sem,ξ,ζ]));apply hK;clear hK;(try clear K);(try dsimp only[ag,qs])
    refine ai ?_;simp(disch:=omega) only[go_sem,ξ,ζ]
    rw[List.eq_nil_of_length_eq_zero hx0]
    exact hv2
   ·obtain⟨ad,rfl,hat⟩:=ha.rd0 h1 (by omega)
    have hx:=aM (by decide) ha.lt 0
    repeat (first |(refine wo rfl (fun k hk=>?_);simp(disch:=omega) only[go_sem,ξ,ζ,hat];apply hk;clear hk k) |refine wkt rfl ?_ |refine wk0 ?_ |refine rg rfl rfl (fun K hK=>?_) |((first |refine ae ?_ |refine ac ?_);simp(disch:=decide) only[qs,qb,if_true,if_false,reduceIte]) |refine ah rfl (fun K hK=>?_) |refine ct rfl ?_ |((try simp(disch:=omega) only[go_sem,ξ,ζ]);(first |apply hK |(clear hK;apply hK) |(clear hK;clear hK;apply hK));clear hK;(try clear K);(try dsimp only[ag,qs,qb])))
    refine wo rfl (fun k hk=>?_);simp(disch:=omega) only[go_sem,ξ,ζ]
    intro _ junk
    apply hk;clear hk k
    (repeat (first |(refine wo rfl (fun k hk=>?_);simp(disch:=omega) only[go_sem,ξ,ζ];apply hk;clear hk k) |refine wkt rfl ?_));(try refine wk0 ?_)
    repeat (first |(refine wo rfl (fun k hk=>?_);simp(disch:=omega) only[go_sem,ξ,ζ];apply hk;clear hk k) |refine wkt rfl ?_ |refine wk0 ?_ |refine rg rfl rfl (fun K hK=>?_) |((first |refine ae ?_ |refine ac ?_);simp(disch:=decide) only[qs,qb,if_true,if_false,reduceIte]) |refine ah rfl (fun K hK=>?_) |refine ct rfl ?_ |((try simp(disch:=omega) only[go_sem,ξ,ζ]);(first |apply hK |(clear hK;apply hK) |(clear hK;clear hK;apply hK));clear hK;(try clear K);(try dsimp only[ag,qs,qb])))
    refine⟨.inr (1,junk),[1],?_,⟨hle,by dsimp only;omega⟩,by dsimp only;omega⟩
    have e1:xs.take 1=[xs.getD 0 0]:=by rw[jC (k:=0) (by omega)];rfl
    simp(disch:=omega) only[go_sem,ξ,ζ,e1,jR]
    rfl
  ·dsimp only at hi ⊢
   by_cases hil:i < xs.length
   ·obtain⟨ad,rfl,hat⟩:=ha.rd h1 (i:=i) (by omega)
    have hx:=aM (by decide) ha.lt i
    have hlen:=rW (xs.take i)
    rw[List.length_take,Nat.min_eq_left (by omega)] at hlen
    repeat (first |(refine wo rfl (fun k hk=>?_);simp(disch:=omega) only[go_sem,ξ,ζ,hat];apply hk;clear hk k) |refine wkt rfl ?_ |refine wk0 ?_ |refine rg rfl rfl (fun K hK=>?_) |((first |refine ae ?_ |refine ac ?_);simp(disch:=decide) only[qs,qb,if_true,if_false,reduceIte]) |refine ah rfl (fun K hK=>?_) |refine ct rfl ?_ |((try simp(disch:=omega) only[go_sem,ξ,ζ]);(first |apply hK |(clear hK;apply hK) |(clear hK;clear hK;apply hK));clear hK;(try clear K);(try dsimp only[ag,qs,qb])))
    refine wo rfl (fun k hk=>?_);simp(disch:=omega) only[go_sem,ξ,ζ]
    intro junk
    apply hk;clear hk k
    (repeat (first |(refine wo rfl (fun k hk=>?_);simp(disch:=omega) only[go_sem,ξ,ζ];apply hk;clear hk k) |refine wkt rfl ?_));(try refine wk0 ?_)
    repeat (first |(refine wo rfl (fun k hk=>?_);simp(disch:=omega) only[go_sem,ξ,ζ];apply hk;clear hk k) |refine wkt rfl ?_ |refine wk0 ?_ |refine rg rfl rfl (fun K hK=>?_) |((first |refine ae ?_ |refine ac ?_);simp(disch:=decide) only[qs,qb,if_true,if_false,reduceIte]) |refine ah rfl (fun K hK=>?_) |refine ct rfl ?_ |((try simp(disch:=omega) only[go_sem,ξ,ζ]);(first |apply hK |(clear hK;apply hK) |(clear hK;clear hK;apply hK));clear hK;(try clear K);(try dsimp only[ag,qs,qb])))
    refine⟨.inr (i+1,junk),[2],?_,⟨hle,by dsimp only;omega⟩,by dsimp only;omega⟩
    have e1:=jC hil
    simp(disch:=omega) only[go_sem,ξ,ζ,e1,vF,uw_two]
    rfl
   ·obtain rfl:i=xs.length:=by omega
    have hlen:=rW xs
    rw[qAr (η _)]
    repeat (first |(refine rg rfl rfl (fun K hK=>?_);(repeat (first |(refine wo rfl (fun k hk=>?_);simp(disch:=omega) only[go_sem,ξ,ζ];apply hk;clear hk k) |refine wkt rfl ?_));(try refine wk0 ?_);apply hK;clear hK K;(try dsimp only[ag,qs,qb])) |((first |refine ae ?_ |refine ac ?_);simp(disch:=decide) only[qs,qb,if_true,if_false,reduceIte]) |refine ah rfl (fun K hK=>?_) |refine ct rfl ?_ |((first |refine hK _ _ ?_ |(clear hK;refine hK _ _ ?_) |(clear hK;clear hK;refine hK _ _ ?_));clear hK;(try clear K)))
    refine fk [.p 0,.o 0,.o 1,.o 2] rfl rfl (fun K hK=>?_);(repeat (first |(refine wo rfl (fun k hk=>?_);simp(disch:=omega) only[go_sem,ξ,ζ];apply hk;clear hk k) |refine wkt rfl ?_));(try refine wk0 ?_)
    refine wkp ?_;simp(disch:=omega) only[go_sem,ξ,ζ];intro b h2 hs2 hb;(repeat (first |(refine wo rfl (fun k hk=>?_);simp(disch:=omega) only[go_sem,ξ,ζ];apply hk;clear hk k) |refine wkt rfl ?_));(try refine wk0 ?_)
    have hA:Arr h2 (some ⟨b,0,none⟩) (2*xs.length+jk.length) (jR xs):=.of_app hb (uH ha.lt) (by omega) (by omega)
    refine cN rfl rfl rfl rfl (by exact nY hA (uH ha.lt) hlen) ?_;rintro v2 h3 s2 hv2;(repeat (first |(refine wo rfl (fun k hk=>?_);simp(disch:=omega) only[go_sem,ξ,ζ];apply hk;clear hk k) |refine wkt rfl ?_));(try refine wk0 ?_)
    (try (simp(disch:=omega) only[go_sem,ξ,ζ]));apply hK;clear hK;(try clear K);(try dsimp only[ag,qs])
    refine ai ?_;simp(disch:=omega) only[go_sem,ξ,ζ]
    rwa[yM] at hv2
theorem ED (k:Nat):65536^(2*k)=4294967296^k:=by rw[Nat.pow_mul]
theorem Jy {n k:Nat}:(W 65536 n).length≤2*k↔(W 4294967296 n).length≤k:=by
 constructor
 ·intro h
  refine cV B32 ?_
  rw[←ED]
  exact Nat.lt_of_lt_of_le (cW B16 n) (qAv (by decide) h)
 ·intro h
  refine cV B16 ?_
  rw[ED]
  exact Nat.lt_of_lt_of_le (cW B32 n) (qAv (by decide) h)
theorem C6 (n k:Nat):(W 65536 n).getD (2*k) 0+(W 65536 n).getD (2*k+1) 0*65536=(W 4294967296 n).getD k 0:=by
 rw[rO B16,rO B16,rO B32,qAn,ED,←Nat.div_div_eq_div_mul]
 omega
theorem N32.of_pub {h:PH} {b:Nat} {ds:List Nat} {junk:List Value} {n L c:Nat} (hb:uw ds ++junk≠[]→h b=some (uw ds ++junk).toArray) (hW:W 4294967296 n=ds) (hs:ds.length≤2^46) (hL:ds.length=L) (hc:ds.length≤c):N32 h (.slice (some ⟨b,0,none⟩) L c) n:=by
 refine⟨_,c,by rw[hW,hL],?_⟩
 rw[hW]
 have hlt:∀x∈ds,x < 4294967296:=by rw[←hW];exact W_lt B32 n
 refine .of_block hb (fun i x hi=>?_) hlt hs hc
 have hil:i < ds.length:=(List.getElem?_eq_some_iff.1 hi).1
 rw[List.getElem?_append_left (by simp[uw];exact hil)]
 simp[uw,hi]
theorem oj {h0 h:PH} [Le h0 h] {v:Value} {n:Nat} (hv:N16 h0 v n) (bn:bl n≤2^40):Spec mach 48 #[v] h (fun v h'=>N32 h' v n) NP:=by
 obtain⟨a,c,xs,rfl,ha,hxs,hm,hx16⟩:=hv.out
 obtain⟨zs,hzs⟩:∃zs,W 4294967296 n=zs:=⟨_,rfl⟩
 have hs:xs.length≤2^40:=by have:=cr n;rw[hxs] at this;omega
 have hzl:zs.length≤2^40:=by have:=dj n;rw[hzs] at this;omega
 have hlen:∀k,xs.length≤2*k↔zs.length≤k:=fun k=>by rw[←hxs,←hzs];exact Jy
 have hdig:∀k,xs.getD (2*k) 0+xs.getD (2*k+1) 0*65536=zs.getD k 0:=fun k=>by rw[←hxs,←hzs];exact C6 n k
 refine Spec.enter (args:=[_]) (n:=34) Tryz.func48 rfl (by kernel_rfl) rfl (by simp) [.tmp 2] rfl (fun C _=>?_)
 repeat (first |(refine wo rfl (fun k hk=>?_);simp(disch:=omega) only[go_sem,ξ,ζ];apply hk;clear hk k) |refine wkt rfl ?_ |refine wk0 ?_ |refine rg rfl rfl (fun K hK=>?_) |((first |refine ae ?_ |refine ac ?_);simp(disch:=decide) only[qs,qb,if_true,if_false,reduceIte]) |refine ah rfl (fun K hK=>?_) |refine ct rfl ?_ |((try simp(disch:=omega) only[go_sem,ξ,ζ]);(first |apply hK |(clear hK;apply hK) |(clear hK;clear hK;apply hK));clear hK;(try clear K);(try dsimp only[ag,qs,qb])))
 refine eO (fun x:Nat ⊕ (Nat×List Value)=>match x with
   |.inl _=>⟨[(0,.v (.slice a xs.length c)),(3,.v (.slice none 0 0)),(4,.v (.int .i64 0))],[]⟩
   |.inr (k,jk)=>⟨[(0,.v (.slice a xs.length c)),(3,.s 0 0 k (k+jk.length)),(4,.v (.int .i64 (2*k:Nat)))],[uw (zs.take k) ++jk]⟩)
  (fun x h'=>Le h0 h'∧match x with
   |.inl _=>True
   |.inr (k,_)=>k≤zs.length)
  (fun x=>match x with
   |.inl _=>zs.length+1
   |.inr (k,_)=>zs.length - k) (.inl 0) [] ?_ ⟨inferInstance,trivial⟩ ?_
 ·simp(disch:=omega) only[go_sem,ξ,ζ]
 ·rintro(r |⟨i,jk⟩) h1 ⟨hle,hi⟩
  ·dsimp only at hi ⊢
   have hl0:=hlen 0
   have hd0:=hdig 0
   simp only[Nat.mul_zero,Nat.zero_add] at hl0 hd0
   by_cases hx0:xs.length=0
   ·repeat (first |(refine wo rfl (fun k hk=>?_);simp(disch:=omega) only[go_sem,ξ,ζ];apply hk;clear hk k) |refine wkt rfl ?_ |refine wk0 ?_ |refine rg rfl rfl (fun K hK=>?_) |((first |refine ae ?_ |refine ac ?_);simp(disch:=decide) only[qs,qb,if_true,if_false,reduceIte]) |refine ah rfl (fun K hK=>?_) |refine ct rfl ?_ |((try simp(disch:=omega) only[go_sem,ξ,ζ]);(first |apply hK |(clear hK;apply hK) |(clear hK;clear hK;apply hK));clear hK;(try clear K);(try dsimp only[ag,qs,qb])))
    refine ai ?_;simp(disch:=omega) only[go_sem,ξ,ζ]
    have:n=0:=by rw[←hm,List.eq_nil_of_length_eq_zero hx0];rfl
    rw[this];exact N32.zero _
   ·obtain⟨ad,rfl,hat⟩:=ha.rd0 h1 (by omega)
    have hx:=aM (by decide) hx16 0
    have e1:zs.take 1=[zs.getD 0 0]:=by rw[jC (k:=0) (by omega)];rfl
    by_cases hx1:1 < xs.length
    ·obtain⟨ad',h',hat'⟩:=ha.rd h1 (i:=1) (by omega)
     obtain rfl:ad=ad':=by simpa using h'
     have hy:=aM (by decide) hx16 1
     have hat1:h1.at (ad.add ((0:Int)+1).toNat)=some (.int .u32 (xs.getD 1 0:Nat)):=hat'
     repeat (first |(refine wo rfl (fun k hk=>?_);simp(disch:=omega) only[go_sem,ξ,ζ,hat,hat1,hd0];apply hk;clear hk k) |refine wkt rfl ?_ |refine wk0 ?_ |refine rg rfl rfl (fun K hK=>?_) |((first |refine ae ?_ |refine ac ?_);simp(disch:=decide) only[qs,qb,if_true,if_false,reduceIte]) |refine ah rfl (fun K hK=>?_) |refine ct rfl ?_ |((try simp(disch:=omega) only[go_sem,ξ,ζ]);(first |apply hK |(clear hK;apply hK) |(clear hK;clear hK;apply hK));clear hK;(try clear K);(try dsimp only[ag,qs,qb])))
     refine wo rfl (fun k hk=>?_);simp(disch:=omega) only[go_sem,ξ,ζ]
     intro _ junk
     apply hk;clear hk k
     (repeat (first |(refine wo rfl (fun k hk=>?_);simp(disch:=omega) only[go_sem,ξ,ζ];apply hk;clear hk k) |refine wkt rfl ?_));(try refine wk0 ?_)
     repeat (first |(refine wo rfl (fun k hk=>?_);simp(disch:=omega) only[go_sem,ξ,ζ];apply hk;clear hk k) |refine wkt rfl ?_ |refine wk0 ?_ |refine rg rfl rfl (fun K hK=>?_) |((first |refine ae ?_ |refine ac ?_);simp(disch:=decide) only[qs,qb,if_true,if_false,reduceIte]) |refine ah rfl (fun K hK=>?_) |refine ct rfl ?_ |((try simp(disch:=omega) only[go_sem,ξ,ζ]);(first |apply hK |(clear hK;apply hK) |(clear hK;clear hK;apply hK));clear hK;(try clear K);(try dsimp only[ag,qs,qb])))
     refine⟨.inr (1,junk),[1],?_,⟨hle,by dsimp only;omega⟩,by dsimp only;omega⟩
     simp(disch:=omega) only[go_sem,ξ,ζ,e1]
     rfl
    ·have hy:xs.getD 1 0=0:=getD_none (by omega)
     rw[hy,Nat.zero_mul,Nat.add_zero] at hd0
     repeat (first |(refine wo rfl (fun k hk=>?_);simp(disch:=omega) only[go_sem,ξ,ζ,hat,hd0];apply hk;clear hk k) |refine wkt rfl ?_ |refine wk0 ?_ |refine rg rfl rfl (fun K hK=>?_) |((first |refine ae ?_ |refine ac ?_);simp(disch:=decide) only[qs,qb,if_true,if_false,reduceIte]) |refine ah rfl (fun K hK=>?_) |refine ct rfl ?_ |((try simp(disch:=omega) only[go_sem,ξ,ζ]);(first |apply hK |(clear hK;apply hK) |(clear hK;clear hK;apply hK));clear hK;(try clear K);(try dsimp only[ag,qs,qb])))
     refine wo rfl (fun k hk=>?_);simp(disch:=omega) only[go_sem,ξ,ζ]
     intro _ junk
     apply hk;clear hk k
     (repeat (first |(refine wo rfl (fun k hk=>?_);simp(disch:=omega) only[go_sem,ξ,ζ];apply hk;clear hk k) |refine wkt rfl ?_));(try refine wk0 ?_)
     repeat (first |(refine wo rfl (fun k hk=>?_);simp(disch:=omega) only[go_sem,ξ,ζ];apply hk;clear hk k) |refine wkt rfl ?_ |refine wk0 ?_ |refine rg rfl rfl (fun K hK=>?_) |((first |refine ae ?_ |refine ac ?_);simp(disch:=decide) only[qs,qb,if_true,if_false,reduceIte]) |refine ah rfl (fun K hK=>?_) |refine ct rfl ?_ |((try simp(disch:=omega) only[go_sem,ξ,ζ]);(first |apply hK |(clear hK;apply hK) |(clear hK;clear hK;apply hK));clear hK;(try clear K);(try dsimp only[ag,qs,qb])))
     refine⟨.inr (1,junk),[1],?_,⟨hle,by dsimp only;omega⟩,by dsimp only;omega⟩
     simp(disch:=omega) only[go_sem,ξ,ζ,e1]
     rfl
  ·dsimp only at hi ⊢
   have hli:=hlen i
   have hdi:=hdig i
   by_cases hil:i < zs.length
   ·obtain⟨ad,rfl,hat⟩:=ha.rd h1 (i:=2*i) (by omega)
    have hx:=aM (by decide) hx16 (2*i)
    have e1:=jC hil
    have ez:(zs.take i).length=i:=by rw[List.length_take,Nat.min_eq_left (by omega)]
    by_cases hx1:2*i+1 < xs.length
    ·obtain⟨ad',h',hat'⟩:=ha.rd h1 (i:=2*i+1) (by omega)
     obtain rfl:ad=ad':=by simpa using h'
     have hy:=aM (by decide) hx16 (2*i+1)
     simp(disch:=omega) only[go_sem,ξ,ζ] at hat'
     repeat (first |(refine wo rfl (fun k hk=>?_);simp(disch:=omega) only[go_sem,ξ,ζ,hat,hat',hdi];apply hk;clear hk k) |refine wkt rfl ?_ |refine wk0 ?_ |refine rg rfl rfl (fun K hK=>?_) |((first |refine ae ?_ |refine ac ?_);simp(disch:=decide) only[qs,qb,if_true,if_false,reduceIte]) |refine ah rfl (fun K hK=>?_) |refine ct rfl ?_ |((try simp(disch:=omega) only[go_sem,ξ,ζ]);(first |apply hK |(clear hK;apply hK) |(clear hK;clear hK;apply hK));clear hK;(try clear K);(try dsimp only[ag,qs,qb])))
     refine wo rfl (fun k hk=>?_);simp(disch:=omega) only[go_sem,ξ,ζ]
     intro junk
     apply hk;clear hk k
     (repeat (first |(refine wo rfl (fun k hk=>?_);simp(disch:=omega) only[go_sem,ξ,ζ];apply hk;clear hk k) |refine wkt rfl ?_));(try refine wk0 ?_)
     repeat (first |(refine wo rfl (fun k hk=>?_);simp(disch:=omega) only[go_sem,ξ,ζ];apply hk;clear hk k) |refine wkt rfl ?_ |refine wk0 ?_ |refine rg rfl rfl (fun K hK=>?_) |((first |refine ae ?_ |refine ac ?_);simp(disch:=decide) only[qs,qb,if_true,if_false,reduceIte]) |refine ah rfl (fun K hK=>?_) |refine ct rfl ?_ |((try simp(disch:=omega) only[go_sem,ξ,ζ]);(first |apply hK |(clear hK;apply hK) |(clear hK;clear hK;apply hK));clear hK;(try clear K);(try dsimp only[ag,qs,qb])))
     refine⟨.inr (i+1,junk),[2],?_,⟨hle,by dsimp only;omega⟩,by dsimp only;omega⟩
     simp(disch:=omega) only[go_sem,ξ,ζ,e1,fB,qAm]
    ·have hy:xs.getD (2*i+1) 0=0:=getD_none (by omega)
     rw[hy,Nat.zero_mul,Nat.add_zero] at hdi
     repeat (first |(refine wo rfl (fun k hk=>?_);simp(disch:=omega) only[go_sem,ξ,ζ,hat,hdi];apply hk;clear hk k) |refine wkt rfl ?_ |refine wk0 ?_ |refine rg rfl rfl (fun K hK=>?_) |((first |refine ae ?_ |refine ac ?_);simp(disch:=decide) only[qs,qb,if_true,if_false,reduceIte]) |refine ah rfl (fun K hK=>?_) |refine ct rfl ?_ |((try simp(disch:=omega) only[go_sem,ξ,ζ]);(first |apply hK |(clear hK;apply hK) |(clear hK;clear hK;apply hK));clear hK;(try clear K);(try dsimp only[ag,qs,qb])))
     refine wo rfl (fun k hk=>?_);simp(disch:=omega) only[go_sem,ξ,ζ]
     intro junk
     apply hk;clear hk k
     (repeat (first |(refine wo rfl (fun k hk=>?_);simp(disch:=omega) only[go_sem,ξ,ζ];apply hk;clear hk k) |refine wkt rfl ?_));(try refine wk0 ?_)
     repeat (first |(refine wo rfl (fun k hk=>?_);simp(disch:=omega) only[go_sem,ξ,ζ];apply hk;clear hk k) |refine wkt rfl ?_ |refine wk0 ?_ |refine rg rfl rfl (fun K hK=>?_) |((first |refine ae ?_ |refine ac ?_);simp(disch:=decide) only[qs,qb,if_true,if_false,reduceIte]) |refine ah rfl (fun K hK=>?_) |refine ct rfl ?_ |((try simp(disch:=omega) only[go_sem,ξ,ζ]);(first |apply hK |(clear hK;apply hK) |(clear hK;clear hK;apply hK));clear hK;(try clear K);(try dsimp only[ag,qs,qb])))
     refine⟨.inr (i+1,junk),[2],?_,⟨hle,by dsimp only;omega⟩,by dsimp only;omega⟩
     simp(disch:=omega) only[go_sem,ξ,ζ,e1,fB,qAm]
   ·obtain rfl:i=zs.length:=by omega
    rw[qAr (η _)]
    repeat (first |(refine rg rfl rfl (fun K hK=>?_);(repeat (first |(refine wo rfl (fun k hk=>?_);simp(disch:=omega) only[go_sem,ξ,ζ];apply hk;clear hk k) |refine wkt rfl ?_));(try refine wk0 ?_);apply hK;clear hK K;(try dsimp only[ag,qs,qb])) |((first |refine ae ?_ |refine ac ?_);simp(disch:=decide) only[qs,qb,if_true,if_false,reduceIte]) |refine ah rfl (fun K hK=>?_) |refine ct rfl ?_ |((first |refine hK _ _ ?_ |(clear hK;refine hK _ _ ?_) |(clear hK;clear hK;refine hK _ _ ?_));clear hK;(try clear K)))
    refine mp 0 ?_
    simp(disch:=omega) only[go_sem,ξ,ζ]
    intro b h2 hs2 hb
    refine ai ?_;simp(disch:=omega) only[go_sem,ξ,ζ]
    exact N32.of_pub hb hzs (by omega) rfl (by omega)
theorem bl_dz (d:Nat):bl (dz d)≤bl d+1:=by
 unfold dz;split
 ·subst d;decide
 ·omega
theorem jD {h0 h:PH} [Le h0 h] {a:Option Addr} {c n L:Nat} {xs:List Nat} (ha:Arr h0 a c xs) (hl:xs.length=L) (hs:xs.length≤2^40) (hn:val 4294967296 xs=n):
  Spec mach 72 #[.slice a L c] h (fun v h'=>N16 h' v n) NP:=by subst hl hn;exact Gf ha hs
theorem mo {xs:List Nat} (hlt:∀x∈xs,x < 4294967296):bl (val 4294967296 xs)≤32*xs.length:=by
 rw[bl_le,B_pow];exact iU (by decide) xs hlt
theorem bM {h0 h:PH} [Le h0 h] {v:Value} {neg:Bool} {n d:Nat} (hv:Rw h0 v neg n d):
  Spec mach 69 #[v] h (fun v h'=>Qr h' v (qof neg n d)) NP:=by
 obtain⟨a,c,xs,a',c',ys,rfl,ha,ha',hn,hd,hsx,hsy⟩:=hv
 have bn:bl n≤2^37:=by have:=mo ha.lt;rw[hn] at this;omega
 have bd:bl d≤2^37:=by have:=mo ha'.lt;rw[hd] at this;omega
 have bz:=bl_dz d
 refine Spec.enter (args:=[_]) (n:=18) Tryz.func69 rfl (by kernel_rfl) rfl (by simp) [.cell 2 60] rfl (fun C _=>?_)
 repeat (first |(refine wo rfl (fun k hk=>?_);simp(disch:=omega) only[go_sem,ξ,ζ];apply hk;clear hk k) |refine wkt rfl ?_ |refine wk0 ?_ |refine rg rfl rfl (fun K hK=>?_) |refine rd [.o 0,.o 1,.o 2,.o 3,.o 5,.o 4,.o 6,.o 7] rfl (by decide+kernel) rfl (fun K hK=>?_) |((first |refine ae ?_ |refine ac ?_);simp(disch:=decide) only[qs,qb,if_true,if_false,reduceIte]) |refine ah rfl (fun K hK=>?_) |refine ct rfl ?_ |((try simp(disch:=omega) only[go_sem,ξ,ζ]);(first |apply hK |(clear hK;apply hK) |(clear hK;clear hK;apply hK));clear hK;(try clear K);(try dsimp only[ag,qs,qb])))
 refine cN rfl rfl rfl rfl (by exact jD ha' rfl (by omega) hd) ?_;rintro v1 h1 _ hv1;obtain⟨v1,v1_l,v1_c,rfl,hv1⟩:=hv1.sl;(repeat (first |(refine wo rfl (fun k hk=>?_);simp(disch:=omega) only[go_sem,ξ,ζ];apply hk;clear hk k) |refine wkt rfl ?_));(try refine wk0 ?_)
 (try (simp(disch:=omega) only[go_sem,ξ,ζ]));apply hK;clear hK;(try clear K);(try dsimp only[ag,qs])
 have l1:=hv1.len0
 refine oJ (fun K hK=>?_)
 have rest:∀(va:Option Addr) (vl vc:Nat) (h':PH) (S:AS),Le h0 h'→N16 h' (.slice va vl vc) (dz d)→S.le ⟨[(1,.p 0 0),(2,.p 1 0),(3,.v (.slice va vl vc))],[[.bool neg,.slice a xs.length c,.slice a' ys.length c'],[.bool false,.slice none 0 0,.slice none 0 0]]⟩→K S h':=by
  intro va vl vc h' S _ hz hS
  refine hK _ _ (fq _ hS ?_);clear hK K
  (first |refine rg rfl rfl (fun K hK=>?_) |refine rd [.o 0,.o 1,.o 2,.o 3,.o 5,.o 4,.o 6,.o 7] rfl (by decide+kernel) rfl (fun K hK=>?_));(repeat (first |(refine wo rfl (fun k hk=>?_);simp(disch:=omega) only[go_sem,ξ,ζ];apply hk;clear hk k) |refine wkt rfl ?_));(try refine wk0 ?_)
  refine cN rfl rfl rfl rfl (by exact jD ha rfl (by omega) hn) ?_;rintro v2 h2 _ hv2;obtain⟨v2,v2_l,v2_c,rfl,hv2⟩:=hv2.sl;(repeat (first |(refine wo rfl (fun k hk=>?_);simp(disch:=omega) only[go_sem,ξ,ζ];apply hk;clear hk k) |refine wkt rfl ?_));(try refine wk0 ?_)
  refine cN rfl rfl rfl rfl (by exact fQ (neg:=neg) hv2 (hz.to (h':=h2)) (by omega) (by omega)) ?_;rintro v3 h3 _ hv3;obtain⟨v3_0,v3_1,v3_2,v3_3,v3_4,v3_5,v3_6,rfl,hv3⟩:=hv3.sa;(repeat (first |(refine wo rfl (fun k hk=>?_);simp(disch:=omega) only[go_sem,ξ,ζ];apply hk;clear hk k) |refine wkt rfl ?_));(try refine wk0 ?_)
  (try (simp(disch:=omega) only[go_sem,ξ,ζ]));apply hK;clear hK;(try clear K);(try dsimp only[ag,qs])
  refine ai ?_;simp(disch:=omega) only[go_sem,ξ,ζ]
  exact hv3
 by_cases hd0:d=0
 ·refine uf rfl (fun K hK=>?_);(repeat (first |(refine wo rfl (fun k hk=>?_);simp(disch:=omega) only[go_sem,ξ,ζ];apply hk;clear hk k) |refine wkt rfl ?_));(try refine wk0 ?_);(first |refine hK _ _ ?_ |(clear hK;refine hK _ _ ?_) |(clear hK;clear hK;refine hK _ _ ?_));clear hK;(try clear K)
  refine mE rfl ?_
  (first |refine rg rfl rfl (fun K hK=>?_) |refine rd [.o 0,.o 1,.o 2,.o 3,.o 5,.o 4,.o 6,.o 7] rfl (by decide+kernel) rfl (fun K hK=>?_));(repeat (first |(refine wo rfl (fun k hk=>?_);simp(disch:=omega) only[go_sem,ξ,ζ];apply hk;clear hk k) |refine wkt rfl ?_));(try refine wk0 ?_)
  refine cN rfl rfl rfl rfl (by exact bQ (n:=1) (by decide)) ?_;rintro w1 h2 _ hw1;obtain⟨w1,w1_l,w1_c,rfl,hw1⟩:=hw1.sl;(repeat (first |(refine wo rfl (fun k hk=>?_);simp(disch:=omega) only[go_sem,ξ,ζ];apply hk;clear hk k) |refine wkt rfl ?_));(try refine wk0 ?_)
  (try (simp(disch:=omega) only[go_sem,ξ,ζ]));apply hK;clear hK;(try clear K);(try dsimp only[ag,qs])
  refine rest _ _ _ _ _ inferInstance (by rw[hd0];exact hw1) ?_
  simp(disch:=omega) only[go_sem,ξ,ζ]
 ·refine uf rfl (fun K hK=>?_);(repeat (first |(refine wo rfl (fun k hk=>?_);simp(disch:=omega) only[go_sem,ξ,ζ];apply hk;clear hk k) |refine wkt rfl ?_));(try refine wk0 ?_);(first |refine hK _ _ ?_ |(clear hK;refine hK _ _ ?_) |(clear hK;clear hK;refine hK _ _ ?_));clear hK;(try clear K)
  refine je rfl ?_
  refine ac ?_;simp only[qs,qb,if_true,if_false,reduceIte]
  refine rest _ _ _ _ _ inferInstance (by rw[my hd0];exact hv1) ?_
  simp(disch:=omega) only[go_sem,ξ,ζ]
theorem cA {h0 h:PH} [Le h0 h] {v:Value} {x:Rat} (hx:Qr h0 v x) (bx:sz x≤2^36):Spec mach 20 #[v] h (fun v h'=>Cn h' v x) NP:=by
 obtain⟨na,nl,nc,da,dl,dc,e,rfl,hn,hd,he⟩:=hx.sl
 have b1:=bG x;have b2:=bB x
 have b3:bl e≤sz x:=by
  rcases Nat.eq_zero_or_pos e with h |h
  ·subst h;have:bl 0=0:=by decide
   omega
  ·rw[my (by omega)] at he;rw[he];exact b2
 have ln:=hn.len0
 obtain⟨neg,en⟩:∃b,decide (x.num < 0)=b:=⟨_,rfl⟩
 rw[en] at hx ⊢
 have hnn:neg=true→0 < nl:=by
  intro e1
  rw[e1,decide_eq_true_eq] at en
  rcases Nat.eq_zero_or_pos nl with h |h
  ·have:=ln.1 h;omega
  ·exact h
 refine Spec.enter (args:=[_]) (n:=24) Tryz.func20 rfl (by kernel_rfl) rfl (by simp) [.cell 2 24] rfl (fun C _=>?_)
 repeat (first |(refine rg rfl rfl (fun K hK=>?_);(repeat (first |(refine wo rfl (fun k hk=>?_);simp(disch:=omega) only[go_sem,ξ,ζ];apply hk;clear hk k) |refine wkt rfl ?_));(try refine wk0 ?_);apply hK;clear hK K;(try dsimp only[ag,qs,qb])) |((first |refine ae ?_ |refine ac ?_);simp(disch:=decide) only[qs,qb,if_true,if_false,reduceIte]) |refine ah rfl (fun K hK=>?_) |refine ct rfl ?_ |((first |refine hK _ _ ?_ |(clear hK;refine hK _ _ ?_) |(clear hK;clear hK;refine hK _ _ ?_));clear hK;(try clear K)))
 (first |refine AWP_t (.seg [.o 0,.o 1,.o 2,.o 3,.o 4,.o 5,.o 6,.o 7,.o 8,.o 9] (.alt 10 (.seg [.o 11] (.alt 12 (.alt 13 .done .no) .no)) (.alt 12 (.alt 10 (.seg [.o 11] (.alt 13 .done .no)) .no) .no))) (by decide+kernel) rfl (fun K hK=>?_) |refine mR (.seg [.o 0,.o 1,.o 2,.o 3,.o 4,.o 5,.o 6,.o 7,.o 8,.o 9] (.alt 10 (.seg [.o 11] (.alt 12 (.alt 13 .done .no) .no)) (.alt 12 (.alt 10 (.seg [.o 11] (.alt 13 .done .no)) .no) .no))) (by decide+kernel) rfl (fun K hK=>?_))
 have rest:∀(va:Option Addr) (vl vc:Nat) (h':PH) (S:AS),Le h0 h'→N32 h' (.slice va vl vc) x.num.natAbs→S.le ⟨[(1,.p 0 0),(2,.p 1 0),(3,.p 2 0)],[[.bool neg,.slice na nl nc,.slice da dl dc],[.bool false,.slice none 0 0,.slice none 0 0],[.bool neg,.slice va vl vc,.slice none 0 0]]⟩→K S h':=by
  intro va vl vc h' S _ hz hS
  refine hK _ _ (fq _ hS ?_);clear hK K
  refine oJ (fun K hK=>?_)
  refine rg rfl rfl (fun K hK=>?_);(repeat (first |(refine wo rfl (fun k hk=>?_);simp(disch:=omega) only[go_sem,ξ,ζ];apply hk;clear hk k) |refine wkt rfl ?_ |with_reducible refine wk0 ?_ |with_reducible refine ao ?_ |with_reducible refine aj ?_ wt_no |with_reducible refine ak ?_))
  refine cN rfl rfl rfl rfl (by exact sC hx) ?_;rintro v3 h3 s3 rfl;(repeat (first |(refine wo rfl (fun k hk=>?_);simp(disch:=omega) only[go_sem,ξ,ζ];apply hk;clear hk k) |refine wkt rfl ?_ |with_reducible refine wk0 ?_ |with_reducible refine ao ?_ |with_reducible refine aj ?_ wt_no |with_reducible refine ak ?_))
  by_cases h1:x.den=1
  ·((try (simp(disch:=omega) only[go_sem,ξ,ζ]));apply hK;clear hK;(try clear K);(try dsimp only[ag,qs]));(repeat (first |(refine rg rfl rfl (fun K hK=>?_);(repeat (first |(refine wo rfl (fun k hk=>?_);simp(disch:=omega) only[go_sem,ξ,ζ];apply hk;clear hk k) |refine wkt rfl ?_));(try refine wk0 ?_);apply hK;clear hK K;(try dsimp only[ag,qs,qb])) |((first |refine ae ?_ |refine ac ?_);simp(disch:=decide) only[qs,qb,if_true,if_false,reduceIte]) |refine ah rfl (fun K hK=>?_) |refine ct rfl ?_ |((first |refine hK _ _ ?_ |(clear hK;refine hK _ _ ?_) |(clear hK;clear hK;refine hK _ _ ?_));clear hK;(try clear K))))
   refine ai ?_;simp(disch:=omega) only[go_sem,ξ,ζ]
   exact⟨_,_,by rw[en],hz.to,by rw[if_pos h1];exact N32.zero _⟩
  ·have e1:e=x.den:=by
    rw[←he] at h1 ⊢
    unfold dz at h1 ⊢
    split at h1
    ·exact(h1 rfl).elim
    ·rename_i h2;rw[if_neg h2]
   rw[e1] at hd b3
   ((try (simp(disch:=omega) only[go_sem,ξ,ζ]));apply hK;clear hK;(try clear K);(try dsimp only[ag,qs]));(repeat (first |(refine rg rfl rfl (fun K hK=>?_);(repeat (first |(refine wo rfl (fun k hk=>?_);simp(disch:=omega) only[go_sem,ξ,ζ];apply hk;clear hk k) |refine wkt rfl ?_));(try refine wk0 ?_);apply hK;clear hK K;(try dsimp only[ag,qs,qb])) |((first |refine ae ?_ |refine ac ?_);simp(disch:=decide) only[qs,qb,if_true,if_false,reduceIte]) |refine ah rfl (fun K hK=>?_) |refine ct rfl ?_ |((first |refine hK _ _ ?_ |(clear hK;refine hK _ _ ?_) |(clear hK;clear hK;refine hK _ _ ?_));clear hK;(try clear K))));(refine rg rfl rfl (fun K hK=>?_);(repeat (first |(refine wo rfl (fun k hk=>?_);simp(disch:=omega) only[go_sem,ξ,ζ];apply hk;clear hk k) |refine wkt rfl ?_ |with_reducible refine wk0 ?_ |with_reducible refine ao ?_ |with_reducible refine aj ?_ wt_no |with_reducible refine ak ?_)))
   refine cN rfl rfl rfl rfl (by exact oj hd (by omega)) ?_;rintro v4 h4 _ hv4;obtain⟨v4,v4_l,v4_c,rfl,hv4⟩:=hv4.sl;(repeat (first |(refine wo rfl (fun k hk=>?_);simp(disch:=omega) only[go_sem,ξ,ζ];apply hk;clear hk k) |refine wkt rfl ?_ |with_reducible refine wk0 ?_ |with_reducible refine ao ?_ |with_reducible refine aj ?_ wt_no |with_reducible refine ak ?_))
   ((try (simp(disch:=omega) only[go_sem,ξ,ζ]));apply hK;clear hK;(try clear K);(try dsimp only[ag,qs]));(repeat (first |(refine rg rfl rfl (fun K hK=>?_);(repeat (first |(refine wo rfl (fun k hk=>?_);simp(disch:=omega) only[go_sem,ξ,ζ];apply hk;clear hk k) |refine wkt rfl ?_));(try refine wk0 ?_);apply hK;clear hK K;(try dsimp only[ag,qs,qb])) |((first |refine ae ?_ |refine ac ?_);simp(disch:=decide) only[qs,qb,if_true,if_false,reduceIte]) |refine ah rfl (fun K hK=>?_) |refine ct rfl ?_ |((first |refine hK _ _ ?_ |(clear hK;refine hK _ _ ?_) |(clear hK;clear hK;refine hK _ _ ?_));clear hK;(try clear K))))
   refine ai ?_;simp(disch:=omega) only[go_sem,ξ,ζ]
   exact⟨_,_,by rw[en],hz.to,by rw[if_neg h1];exact hv4⟩
 cases neg with
 | true=>
  have hnn':=hnn rfl
  (repeat (first |(refine wo rfl (fun k hk=>?_);simp(disch:=omega) only[go_sem,ξ,ζ];apply hk;clear hk k) |refine wkt rfl ?_ |with_reducible refine wk0 ?_ |with_reducible refine ao ?_ |with_reducible refine aj ?_ wt_no |with_reducible refine ak ?_))
  refine aj ?_ (aj ?_ wt_no)
  ·refine cN rfl rfl rfl rfl (by exact oj hn (by omega)) ?_;rintro v2 h2 _ hv2;obtain⟨v2,v2_l,v2_c,rfl,hv2⟩:=hv2.sl;(repeat (first |(refine wo rfl (fun k hk=>?_);simp(disch:=omega) only[go_sem,ξ,ζ];apply hk;clear hk k) |refine wkt rfl ?_ |with_reducible refine wk0 ?_ |with_reducible refine ao ?_ |with_reducible refine aj ?_ wt_no |with_reducible refine ak ?_))
   refine rest _ _ _ _ _ inferInstance hv2 ?_
   simp(disch:=omega) only[go_sem,ξ,ζ]
  ·(repeat (first |(refine wo rfl (fun k hk=>?_);simp(disch:=omega) only[go_sem,ξ,ζ];apply hk;clear hk k) |refine wkt rfl ?_ |with_reducible refine wk0 ?_ |with_reducible refine ao ?_ |with_reducible refine aj ?_ wt_no |with_reducible refine ak ?_))
   refine cN rfl rfl rfl rfl (by exact oj hn (by omega)) ?_;rintro v2 h2 _ hv2;obtain⟨v2,v2_l,v2_c,rfl,hv2⟩:=hv2.sl;(repeat (first |(refine wo rfl (fun k hk=>?_);simp(disch:=omega) only[go_sem,ξ,ζ];apply hk;clear hk k) |refine wkt rfl ?_ |with_reducible refine wk0 ?_ |with_reducible refine ao ?_ |with_reducible refine aj ?_ wt_no |with_reducible refine ak ?_))
   refine rest _ _ _ _ _ inferInstance hv2 ?_
   simp(disch:=omega) only[go_sem,ξ,ζ]
 | false=>
  (repeat (first |(refine wo rfl (fun k hk=>?_);simp(disch:=omega) only[go_sem,ξ,ζ];apply hk;clear hk k) |refine wkt rfl ?_ |with_reducible refine wk0 ?_ |with_reducible refine ao ?_ |with_reducible refine aj ?_ wt_no |with_reducible refine ak ?_))
  refine aj ?_ (aj ?_ wt_no)
  ·refine cN rfl rfl rfl rfl (by exact oj hn (by omega)) ?_;rintro v2 h2 _ hv2;obtain⟨v2,v2_l,v2_c,rfl,hv2⟩:=hv2.sl;(repeat (first |(refine wo rfl (fun k hk=>?_);simp(disch:=omega) only[go_sem,ξ,ζ];apply hk;clear hk k) |refine wkt rfl ?_ |with_reducible refine wk0 ?_ |with_reducible refine ao ?_ |with_reducible refine aj ?_ wt_no |with_reducible refine ak ?_))
   refine rest _ _ _ _ _ inferInstance hv2 ?_
   simp(disch:=omega) only[go_sem,ξ,ζ]
  ·(repeat (first |(refine wo rfl (fun k hk=>?_);simp(disch:=omega) only[go_sem,ξ,ζ];apply hk;clear hk k) |refine wkt rfl ?_ |with_reducible refine wk0 ?_ |with_reducible refine ao ?_ |with_reducible refine aj ?_ wt_no |with_reducible refine ak ?_))
   refine cN rfl rfl rfl rfl (by exact oj hn (by omega)) ?_;rintro v2 h2 _ hv2;obtain⟨v2,v2_l,v2_c,rfl,hv2⟩:=hv2.sl;(repeat (first |(refine wo rfl (fun k hk=>?_);simp(disch:=omega) only[go_sem,ξ,ζ];apply hk;clear hk k) |refine wkt rfl ?_ |with_reducible refine wk0 ?_ |with_reducible refine ao ?_ |with_reducible refine aj ?_ wt_no |with_reducible refine ak ?_))
   refine rest _ _ _ _ _ inferInstance hv2 ?_
   simp(disch:=omega) only[go_sem,ξ,ζ]
end Go.Q
