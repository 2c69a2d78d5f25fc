/-
  Contracts of the reference's natural numbers, and what stands on it. Conditions: each theorem's own.
-/
import Derived.Test.YtgmcchhklbeckaaGreatDoorKe1901fPkI
import Derived.Test.YtgmcchhklbeckaaGreatDoorKf08e96PkG
set_option linter.unusedVariables false
set_option linter.unusedSimpArgs false
open Nat renaming reduceBEq→ξ,reduceAdd→ζ,le_trans→χ,mul_le_mul_right→ψ,le_refl→η,mul_comm→ρ,mul_le_mul_left→ω,mul_assoc→σ,mul_le_mul→qAk,mul_add→qAm,pow_succ→qAn,pow_pos→qAo,pow_add→qAs,pow_le_pow_right→qAv,mul_one→qAz,mul_left_comm→qBg,mod_eq_of_lt→qBi,mod_lt→qBl
open List renaming length_append→qAp,take_of_length_le→qAr,mem_append→qAu,getD_eq_getElem?_getD→qAy,mem_singleton→qBc
namespace Go.Q
open Go.Proofs
set_option maxRecDepth 100000
theorem N16.of_pub {h:PH} {b:Nat} {ds:List Nat} {junk:List Value} {n L c:Nat} (hb:uw ds ++junk≠[]→h b=some (uw ds ++junk).toArray) (hW:W 65536 n=ds) (hs:ds.length≤2^46) (hL:ds.length=L) (hc:ds.length≤c):N16 h (.slice (some ⟨b,0,none⟩) L c) n:=by
 refine⟨_,c,by rw[hW,hL],?_⟩
 rw[hW]
 have hlt:∀x∈ds,x < 65536:=by rw[←hW];exact W_lt B16 n
 refine .of_block hb (fun i x hi=>?_) (fun x hx=>by have:=hlt x hx;omega) hs hc
 have hil:i < ds.length:=(List.getElem?_eq_some_iff.1 hi).1
 rw[List.getElem?_append_left (by simp[uw];exact hil)]
 simp[uw,hi]
@[go_sem] theorem uw_take_app (ds:List Nat) (jk:List Value) {k:Nat} (hk:k=ds.length):(uw ds ++jk).take k=uw ds:=by
 subst hk
 rw[List.take_left' (by simp[uw])]
@[go_sem] theorem uw_one1 (d:Nat): [Value.int .u32 (d:Nat)]=uw [d]:=rfl
@[go_sem] theorem spl1 (d:Nat):spl (uw (List.replicate 1 0)) 0 (uw [d])=uw [d]:=rfl
@[go_sem] theorem take1 (d:Nat):(uw [d]).take 1=uw [d]:=rfl
attribute [go_sem] List.length_singleton η List.take_nil
@[go_sem low] theorem spl_uw1 (rs:List Nat) (k d:Nat):spl (uw rs) k (uw [d])=uw (rs.set k d):=spl_uw rs k d
theorem fB (ds:List Nat) (d:Nat) (jk:List Value):uw ds ++(uw [d] ++jk)=uw (ds ++[d]) ++jk:=by simp[uw]
theorem bQ {h:PH} {n:Nat} (hn:n < 2^64):Spec mach 51 #[.int .u64 n] h (fun v h'=>N16 h' v n) NP:=by
 have hl:(W 65536 n).length≤64:=χ (cr n) (bl_le.2 hn)
 refine Spec.enter (args:=[_]) (n:=15) Tryz.func51 rfl (by kernel_rfl) rfl (by simp) [.tmp 2] rfl (fun C _=>?_)
 repeat (first |(refine wo rfl (fun k hk=>?_);simp(disch:=omega) only[go_sem,ξ,ζ];apply hk;clear hk k) |refine wkt rfl ?_ |refine wk0 ?_ |refine rg rfl rfl (fun K hK=>?_) |((first |refine ae ?_ |refine ac ?_);simp(disch:=decide) only[qs,qb,if_true,if_false,reduceIte]) |refine ah rfl (fun K hK=>?_) |refine ct rfl ?_ |((try simp(disch:=omega) only[go_sem,ξ,ζ]);(first |apply hK |(clear hK;apply hK) |(clear hK;clear hK;apply hK));clear hK;(try clear K);(try dsimp only[ag,qs,qb])))
 refine eO (fun x:Nat ⊕ (Nat×List Nat×List Value)=>match x with
   |.inl r=>⟨[(0,.v (.int .u64 r)),(3,.v (.slice none 0 0))],[]⟩
   |.inr (r,ds,jk)=>⟨[(0,.v (.int .u64 r)),(3,.s 0 0 ds.length (ds.length+jk.length))],[uw ds ++jk]⟩)
  (fun x _=>match x with
   |.inl r=>r=n
   |.inr (r,ds,_)=>r < 2^64∧W 65536 n=ds ++W 65536 r)
  (fun x=>match x with
   |.inl r=>r
   |.inr (r,_,_)=>r) (.inl n) [] ?_ rfl ?_
 ·simp(disch:=omega) only[go_sem,ξ,ζ]
 ·rintro(r |⟨r,ds,jk⟩) h1 hi
  ·dsimp only at hi ⊢
   subst hi
   by_cases hr:r=0
   ·repeat (first |(refine wo rfl (fun k hk=>?_);simp(disch:=omega) only[go_sem,ξ,ζ];apply hk;clear hk k) |refine wkt rfl ?_ |refine wk0 ?_ |refine rg rfl rfl (fun K hK=>?_) |((first |refine ae ?_ |refine ac ?_);simp(disch:=decide) only[qs,qb,if_true,if_false,reduceIte]) |refine ah rfl (fun K hK=>?_) |refine ct rfl ?_ |((try simp(disch:=omega) only[go_sem,ξ,ζ]);(first |apply hK |(clear hK;apply hK) |(clear hK;clear hK;apply hK));clear hK;(try clear K);(try dsimp only[ag,qs,qb])))
    refine ai ?_;simp(disch:=omega) only[go_sem,ξ,ζ]
    rw[hr];exact N16.zero _
   ·repeat (first |(refine wo rfl (fun k hk=>?_);simp(disch:=omega) only[go_sem,ξ,ζ];apply hk;clear hk k) |refine wkt rfl ?_ |refine wk0 ?_ |refine rg rfl rfl (fun K hK=>?_) |((first |refine ae ?_ |refine ac ?_);simp(disch:=decide) only[qs,qb,if_true,if_false,reduceIte]) |refine ah rfl (fun K hK=>?_) |refine ct rfl ?_ |((try simp(disch:=omega) only[go_sem,ξ,ζ]);(first |apply hK |(clear hK;apply hK) |(clear hK;clear hK;apply hK));clear hK;(try clear K);(try dsimp only[ag,qs,qb])))
    refine wo rfl (fun k hk=>?_);simp(disch:=omega) only[go_sem,ξ,ζ]
    intro _ junk
    apply hk;clear hk k
    (repeat (first |(refine wo rfl (fun k hk=>?_);simp(disch:=omega) only[go_sem,ξ,ζ];apply hk;clear hk k) |refine wkt rfl ?_));(try refine wk0 ?_)
    repeat (first |(refine wo rfl (fun k hk=>?_);simp(disch:=omega) only[go_sem,ξ,ζ];apply hk;clear hk k) |refine wkt rfl ?_ |refine wk0 ?_ |refine rg rfl rfl (fun K hK=>?_) |((first |refine ae ?_ |refine ac ?_);simp(disch:=decide) only[qs,qb,if_true,if_false,reduceIte]) |refine ah rfl (fun K hK=>?_) |refine ct rfl ?_ |((try simp(disch:=omega) only[go_sem,ξ,ζ]);(first |apply hK |(clear hK;apply hK) |(clear hK;clear hK;apply hK));clear hK;(try clear K);(try dsimp only[ag,qs,qb])))
    refine⟨.inr (r / 65536,[r % 65536],junk),[1],?_,⟨by omega,?_⟩,by dsimp only;omega⟩
    ·simp(disch:=omega) only[go_sem,ξ,ζ]
    ·rw[W_pos B16 hr];rfl
  ·dsimp only at hi ⊢
   obtain⟨hr64,hW⟩:=hi
   have hdl:ds.length≤64:=by rw[hW,qAp] at hl;omega
   by_cases hr:r=0
   ·repeat (first |(refine rg rfl rfl (fun K hK=>?_);(repeat (first |(refine wo rfl (fun k hk=>?_);simp(disch:=omega) only[go_sem,ξ,ζ];apply hk;clear hk k) |refine wkt rfl ?_));(try refine wk0 ?_);apply hK;clear hK K;(try dsimp only[ag,qs,qb])) |((first |refine ae ?_ |refine ac ?_);simp(disch:=decide) only[qs,qb,if_true,if_false,reduceIte]) |refine ah rfl (fun K hK=>?_) |refine ct rfl ?_ |((first |refine hK _ _ ?_ |(clear hK;refine hK _ _ ?_) |(clear hK;clear hK;refine hK _ _ ?_));clear hK;(try clear K)))
    refine mp 0 ?_
    simp(disch:=omega) only[go_sem,ξ,ζ]
    intro b h2 hs2 hb
    refine ai ?_;simp(disch:=omega) only[go_sem,ξ,ζ]
    refine N16.of_pub hb (by rw[hW,hr,ff,List.append_nil]) (by omega) rfl (by omega)
   ·repeat (first |(refine wo rfl (fun k hk=>?_);simp(disch:=omega) only[go_sem,ξ,ζ];apply hk;clear hk k) |refine wkt rfl ?_ |refine wk0 ?_ |refine rg rfl rfl (fun K hK=>?_) |((first |refine ae ?_ |refine ac ?_);simp(disch:=decide) only[qs,qb,if_true,if_false,reduceIte]) |refine ah rfl (fun K hK=>?_) |refine ct rfl ?_ |((try simp(disch:=omega) only[go_sem,ξ,ζ]);(first |apply hK |(clear hK;apply hK) |(clear hK;clear hK;apply hK));clear hK;(try clear K);(try dsimp only[ag,qs,qb])))
    refine wo rfl (fun k hk=>?_);simp(disch:=omega) only[go_sem,ξ,ζ]
    intro junk
    apply hk;clear hk k
    (repeat (first |(refine wo rfl (fun k hk=>?_);simp(disch:=omega) only[go_sem,ξ,ζ];apply hk;clear hk k) |refine wkt rfl ?_));(try refine wk0 ?_)
    repeat (first |(refine wo rfl (fun k hk=>?_);simp(disch:=omega) only[go_sem,ξ,ζ];apply hk;clear hk k) |refine wkt rfl ?_ |refine wk0 ?_ |refine rg rfl rfl (fun K hK=>?_) |((first |refine ae ?_ |refine ac ?_);simp(disch:=decide) only[qs,qb,if_true,if_false,reduceIte]) |refine ah rfl (fun K hK=>?_) |refine ct rfl ?_ |((try simp(disch:=omega) only[go_sem,ξ,ζ]);(first |apply hK |(clear hK;apply hK) |(clear hK;clear hK;apply hK));clear hK;(try clear K);(try dsimp only[ag,qs,qb])))
    refine⟨.inr (r / 65536,ds ++[r % 65536],junk),[2],?_,⟨by omega,?_⟩,by dsimp only;omega⟩
    ·simp(disch:=omega) only[go_sem,ξ,ζ,fB]
    ·rw[hW,W_pos B16 hr,List.append_assoc];rfl
theorem W_of_ge {B:Nat} (hB:2≤B) {zs:List Nat} (hlt:∀x∈zs,x < B) (h:zs=[]∨B^(zs.length - 1)≤val B zs):W B (val B zs)=zs:=by
 refine W_val hB zs hlt fun hl=>?_
 rcases h with rfl |h
 ·cases hl
 ·obtain⟨ys,rfl⟩:∃ys,zs=ys ++[0]:=by
   obtain⟨ys,hy⟩:=List.getLast?_eq_some_iff.1 hl
   exact⟨ys,hy⟩
  have h1:=iU (show 1≤B by omega) ys (fun x hx=>hlt x (List.mem_append_left _ hx))
  rw[dD] at h
  simp[val] at h
  omega
theorem gS {B:Nat} {ds:List Nat} {d:Nat} (h:∀x∈ds,x < B) (hd:d < B):∀x∈ds ++[d],x < B:=fun x hx=>by
 rcases qAu.1 hx with h1 |h1
 ·exact h x h1
 ·rw[qBc.1 h1];exact hd
theorem fj (B:Nat) (ds:List Nat) (d:Nat):val B (ds ++[d])=val B ds+B^ds.length*d:=by rw[dD];simp[val]
@[go_sem] theorem uw_nil:uw []=[]:=rfl
attribute [go_sem] qAp
theorem nr {h0 h:PH} [Le h0 h] {v w:Value} {m n:Nat} (hv:N16 h0 v m) (hw:N16 h0 w n) (bm:bl m≤2^40) (bn:bl n≤2^40):Spec mach 258 #[v,w] h (fun v h'=>N16 h' v (m+n)) NP:=by
 obtain⟨a,c,xs,rfl,ha,hxs,hm,hx16⟩:=hv.out
 obtain⟨a',c',ys,rfl,ha',hys,hn,hy16⟩:=hw.out
 have hs:xs.length≤2^40:=by have:=cr m;rw[hxs] at this;omega
 have hs':ys.length≤2^40:=by have:=cr n;rw[hys] at this;omega
 refine Spec.enter (args:=[_,_]) (n:=56) Tryz.func258 rfl (by kernel_rfl) rfl (by simp) [.tmp 4] rfl (fun C _=>?_)
 repeat (first |(refine rg rfl rfl (fun K hK=>?_);(repeat (first |(refine wo rfl (fun k hk=>?_);simp(disch:=omega) only[go_sem,ξ,ζ];apply hk;clear hk k) |refine wkt rfl ?_));(try refine wk0 ?_);apply hK;clear hK K;(try dsimp only[ag,qs,qb])) |((first |refine ae ?_ |refine ac ?_);simp(disch:=decide) only[qs,qb,if_true,if_false,reduceIte]) |refine ah rfl (fun K hK=>?_) |refine ct rfl ?_ |((first |refine hK _ _ ?_ |(clear hK;refine hK _ _ ?_) |(clear hK;clear hK;refine hK _ _ ?_));clear hK;(try clear K)))
 have rest :∀(a a':Option Addr) (c c':Nat) (xs ys:List Nat) (S:AS),Arr h0 a c xs→Arr h0 a' c' ys→(∀x∈xs,x < 65536)→(∀x∈ys,x < 65536)→W 65536 (val 65536 xs)=xs→ys.length≤xs.length→xs.length≤2^40→val 65536 xs+val 65536 ys=m+n→
   S.le ⟨[(0,.v (.slice a xs.length c)),(1,.v (.slice a' ys.length c'))],[]⟩→K S h:=by
  intro a a' c c' xs ys S ha ha' hx16 hy16 hxW hl hs hv hS
  refine hK _ _ (fq _ hS ?_);clear hK K
  repeat (first |(refine wo rfl (fun k hk=>?_);simp(disch:=omega) only[go_sem,ξ,ζ];apply hk;clear hk k) |refine wkt rfl ?_ |refine wk0 ?_ |refine rg rfl rfl (fun K hK=>?_) |((first |refine ae ?_ |refine ac ?_);simp(disch:=decide) only[qs,qb,if_true,if_false,reduceIte]) |refine ah rfl (fun K hK=>?_) |refine ct rfl ?_ |((try simp(disch:=omega) only[go_sem,ξ,ζ]);(first |apply hK |(clear hK;apply hK) |(clear hK;clear hK;apply hK));clear hK;(try clear K);(try dsimp only[ag,qs,qb])))
  refine eO (fun x:List Nat×List Value×Nat=>⟨[(0,.v (.slice a xs.length c)),(1,.v (.slice a' ys.length c')),(5,.s 0 0 x.1.length (x.1.length+x.2.1.length)),(6,.v (.int .u32 x.2.2)),(21,.v (.int .i64 xs.length)),(22,.v (.int .i64 x.1.length))],[uw x.1 ++x.2.1]⟩)
   (fun x h'=>Le h0 h'∧x.1.length≤xs.length∧(∀d∈x.1,d < 65536)∧x.2.2≤1∧val 65536 x.1+65536^x.1.length*x.2.2=val 65536 (xs.take x.1.length)+val 65536 (ys.take x.1.length)) (fun x=>xs.length - x.1.length) ([],uw (List.replicate (xs.length+1) 0),0) [0] ?_ ⟨inferInstance,by simp,by simp,by simp,by simp[val]⟩ ?_
  ·simp(disch:=omega) only[go_sem,ξ,ζ]
  ·rintro⟨ds,jk,cy⟩ h1 ⟨hle,hk,hlt,hcy,hi⟩
   dsimp only at hk hlt hcy hi ⊢
   by_cases hkl:ds.length < xs.length
   ·obtain⟨ad,rfl,hat⟩:=ha.rd h1 (i:=ds.length) (by omega)
    have hx:=aM (by decide) hx16 ds.length
    by_cases hky:ds.length < ys.length
    ·obtain⟨ad',rfl,hat'⟩:=ha'.rd h1 (i:=ds.length) (by omega)
     have hy:=aM (by decide) hy16 ds.length
     repeat (first |(refine wo rfl (fun k hk=>?_);simp(disch:=omega) only[go_sem,ξ,ζ,hat,hat'];apply hk;clear hk k) |refine wkt rfl ?_ |refine wk0 ?_ |refine rg rfl rfl (fun K hK=>?_) |((first |refine ae ?_ |refine ac ?_);simp(disch:=decide) only[qs,qb,if_true,if_false,reduceIte]) |refine ah rfl (fun K hK=>?_) |refine ct rfl ?_ |((try simp(disch:=omega) only[go_sem,ξ,ζ]);(first |apply hK |(clear hK;apply hK) |(clear hK;clear hK;apply hK));clear hK;(try clear K);(try dsimp only[ag,qs,qb])))
     refine wo rfl (fun k hk=>?_);simp(disch:=omega) only[go_sem,ξ,ζ]
     intro junk
     apply hk;clear hk k
     (repeat (first |(refine wo rfl (fun k hk=>?_);simp(disch:=omega) only[go_sem,ξ,ζ];apply hk;clear hk k) |refine wkt rfl ?_));(try refine wk0 ?_)
     repeat (first |(refine wo rfl (fun k hk=>?_);simp(disch:=omega) only[go_sem,ξ,ζ];apply hk;clear hk k) |refine wkt rfl ?_ |refine wk0 ?_ |refine rg rfl rfl (fun K hK=>?_) |((first |refine ae ?_ |refine ac ?_);simp(disch:=decide) only[qs,qb,if_true,if_false,reduceIte]) |refine ah rfl (fun K hK=>?_) |refine ct rfl ?_ |((try simp(disch:=omega) only[go_sem,ξ,ζ]);(first |apply hK |(clear hK;apply hK) |(clear hK;clear hK;apply hK));clear hK;(try clear K);(try dsimp only[ag,qs,qb])))
     refine⟨(ds ++[(xs.getD ds.length 0+cy+ys.getD ds.length 0) % 65536],junk,(xs.getD ds.length 0+cy+ys.getD ds.length 0) / 65536),[2],?_,⟨hle,by simp;omega,gS hlt (qBl _ (by decide)),by dsimp only;omega,?_⟩,by simp;omega⟩
     ·simp(disch:=omega) only[go_sem,ξ,ζ,fB]
     ·simp only[qAp,List.length_singleton]
      rw[fj,aq _ xs,aq _ ys,qAn]
      exact pS rfl hi
    ·repeat (first |(refine wo rfl (fun k hk=>?_);simp(disch:=omega) only[go_sem,ξ,ζ,hat];apply hk;clear hk k) |refine wkt rfl ?_ |refine wk0 ?_ |refine rg rfl rfl (fun K hK=>?_) |((first |refine ae ?_ |refine ac ?_);simp(disch:=decide) only[qs,qb,if_true,if_false,reduceIte]) |refine ah rfl (fun K hK=>?_) |refine ct rfl ?_ |((try simp(disch:=omega) only[go_sem,ξ,ζ]);(first |apply hK |(clear hK;apply hK) |(clear hK;clear hK;apply hK));clear hK;(try clear K);(try dsimp only[ag,qs,qb])))
     refine wo rfl (fun k hk=>?_);simp(disch:=omega) only[go_sem,ξ,ζ]
     intro junk
     apply hk;clear hk k
     (repeat (first |(refine wo rfl (fun k hk=>?_);simp(disch:=omega) only[go_sem,ξ,ζ];apply hk;clear hk k) |refine wkt rfl ?_));(try refine wk0 ?_)
     repeat (first |(refine wo rfl (fun k hk=>?_);simp(disch:=omega) only[go_sem,ξ,ζ];apply hk;clear hk k) |refine wkt rfl ?_ |refine wk0 ?_ |refine rg rfl rfl (fun K hK=>?_) |((first |refine ae ?_ |refine ac ?_);simp(disch:=decide) only[qs,qb,if_true,if_false,reduceIte]) |refine ah rfl (fun K hK=>?_) |refine ct rfl ?_ |((try simp(disch:=omega) only[go_sem,ξ,ζ]);(first |apply hK |(clear hK;apply hK) |(clear hK;clear hK;apply hK));clear hK;(try clear K);(try dsimp only[ag,qs,qb])))
     refine⟨(ds ++[(xs.getD ds.length 0+cy) % 65536],junk,(xs.getD ds.length 0+cy) / 65536),[2],?_,⟨hle,by simp;omega,gS hlt (qBl _ (by decide)),by dsimp only;omega,?_⟩,by simp;omega⟩
     ·simp(disch:=omega) only[go_sem,ξ,ζ,fB]
     ·have hy:ys.getD ds.length 0=0:=getD_none (by omega)
      simp only[qAp,List.length_singleton]
      rw[fj,aq _ xs,aq _ ys,qAn,hy]
      exact pS (by omega) hi
   ·have hkl':ds.length=xs.length:=by omega
    rw[hkl',qAr (η _),qAr hl,hv] at hi
    by_cases hc0:cy=0
    ·rw[hc0,Nat.mul_zero,Nat.add_zero] at hi
     repeat (first |(refine rg rfl rfl (fun K hK=>?_);(repeat (first |(refine wo rfl (fun k hk=>?_);simp(disch:=omega) only[go_sem,ξ,ζ];apply hk;clear hk k) |refine wkt rfl ?_));(try refine wk0 ?_);apply hK;clear hK K;(try dsimp only[ag,qs,qb])) |((first |refine ae ?_ |refine ac ?_);simp(disch:=decide) only[qs,qb,if_true,if_false,reduceIte]) |refine ah rfl (fun K hK=>?_) |refine ct rfl ?_ |((first |refine hK _ _ ?_ |(clear hK;refine hK _ _ ?_) |(clear hK;clear hK;refine hK _ _ ?_));clear hK;(try clear K)))
     refine mp 0 ?_
     simp(disch:=omega) only[go_sem,ξ,ζ]
     intro b h2 hs2 hb
     refine ai ?_;simp(disch:=omega) only[go_sem,ξ,ζ]
     refine N16.of_pub hb ?_ (by omega) rfl (by omega)
     rw[←hi]
     refine W_of_ge B16 hlt ?_
     by_cases hx0:xs.length=0
     ·left;exact List.eq_nil_of_length_eq_zero (by omega)
     ·right
      have hv0:val 65536 xs≠0:=by intro e;rw[e,ff] at hxW;rw[←hxW] at hx0;exact hx0 rfl
      have h3:=(W_top B16 hv0).2.1
      rw[hxW] at h3
      rw[hkl',hi]
      omega
    ·repeat (first |(refine wo rfl (fun k hk=>?_);simp(disch:=omega) only[go_sem,ξ,ζ];apply hk;clear hk k) |refine wkt rfl ?_ |refine wk0 ?_ |refine rg rfl rfl (fun K hK=>?_) |((first |refine ae ?_ |refine ac ?_);simp(disch:=decide) only[qs,qb,if_true,if_false,reduceIte]) |refine ah rfl (fun K hK=>?_) |refine ct rfl ?_ |((try simp(disch:=omega) only[go_sem,ξ,ζ]);(first |apply hK |(clear hK;apply hK) |(clear hK;clear hK;apply hK));clear hK;(try clear K);(try dsimp only[ag,qs,qb])))
     refine wo rfl (fun k hk=>?_);simp(disch:=omega) only[go_sem,ξ,ζ]
     intro junk
     apply hk;clear hk k
     (repeat (first |(refine wo rfl (fun k hk=>?_);simp(disch:=omega) only[go_sem,ξ,ζ];apply hk;clear hk k) |refine wkt rfl ?_));(try refine wk0 ?_)
     repeat (first |(refine wo rfl (fun k hk=>?_);simp(disch:=omega) only[go_sem,ξ,ζ];apply hk;clear hk k) |refine wkt rfl ?_ |refine wk0 ?_ |((first |refine rg rfl rfl (fun K hK=>?_));(repeat (first |(refine wo rfl (fun k hk=>?_);simp(disch:=omega) only[go_sem,ξ,ζ];apply hk;clear hk k) |refine wkt rfl ?_ |refine wk0 ?_));(first |apply hK |(clear hK;apply hK) |(clear hK;clear hK;apply hK));clear hK;(try clear K);(try dsimp only[ag,qs,qb])) |((first |refine ae ?_ |refine ac ?_);simp(disch:=decide) only[qs,qb,if_true,if_false,reduceIte]) |refine ah rfl (fun K hK=>?_) |refine ct rfl ?_ |((try simp(disch:=omega) only[go_sem,ξ,ζ]);(first |apply hK |(clear hK;apply hK) |(clear hK;clear hK;apply hK));clear hK;(try clear K);(try dsimp only[ag,qs,qb])))
     refine mp 2 ?_
     simp(disch:=omega) only[go_sem,ξ,ζ]
     intro b h2 hs2 hb
     refine ai ?_;simp(disch:=omega) only[go_sem,ξ,ζ]
     simp only[fB] at hb
     refine N16.of_pub hb ?_ (by simp;omega) (by simp) (by simp)
     rw[←hi,←hkl',←fj]
     exact W_val B16 _ (gS hlt (by omega)) (by simpa using hc0)
 refine mP rfl (fun ht=>?_) (fun ht=>?_)
 ·have:=of_decide_eq_true ht
  refine ug rfl ?_;(repeat (first |(refine wo rfl (fun k hk=>?_);simp(disch:=omega) only[go_sem,ξ,ζ];apply hk;clear hk k) |refine wkt rfl ?_));(try refine wk0 ?_);simp only[qs,qb,if_true,if_false,reduceIte]
  refine rest _ _ _ _ ys xs _ ha' ha hy16 hx16 (by rw[hn];exact hys) (by omega) hs' (by omega) ?_
  simp(disch:=omega) only[go_sem,ξ,ζ]
 ·have:=of_decide_eq_false ht
  refine ac ?_;simp only[qs,qb,if_true,if_false,reduceIte]
  refine rest _ _ _ _ xs ys _ ha ha' hx16 hy16 (by rw[hm];exact hxs) (by omega) hs (by omega) ?_
  simp(disch:=omega) only[go_sem,ξ,ζ]
theorem Arr.of_app {h:PH} {b:Nat} {ds:List Nat} {junk:List Value} {c:Nat} (hb:uw ds ++junk≠[]→h b=some (uw ds ++junk).toArray) (hlt:∀x∈ds,x < 65536) (hs:ds.length≤2^46) (hc:ds.length≤c):Arr h (some ⟨b,0,none⟩) c ds:=by
 refine .of_block hb (fun i x hi=>?_) (fun x hx=>by have:=hlt x hx;omega) hs hc
 have hil:i < ds.length:=(List.getElem?_eq_some_iff.1 hi).1
 rw[List.getElem?_append_left (by simp[uw];exact hil)]
 simp[uw,hi]
theorem aV {h0 h:PH} [Le h0 h] {v w:Value} {m n:Nat} (hv:N16 h0 v m) (hw:N16 h0 w n) (bm:bl m≤2^40) (bn:bl n≤2^40):Spec mach 256 #[v,w] h (fun v h'=>N16 h' v (m*n)) NP:=by
 obtain⟨a,c,xs,rfl,ha,hxs,hm,hx16⟩:=hv.out
 obtain⟨a',c',ys,rfl,ha',hys,hn,hy16⟩:=hw.out
 have hs:xs.length≤2^40:=by have:=cr m;rw[hxs] at this;omega
 have hs':ys.length≤2^40:=by have:=cr n;rw[hys] at this;omega
 refine Spec.enter (args:=[_,_]) (n:=77) Tryz.func256 rfl (by kernel_rfl) rfl (by simp) [.tmp 4] rfl (fun C _=>?_)
 have z1:xs.length=0→m*n=0:=fun h=>by rw[←hm,List.eq_nil_of_length_eq_zero h];simp[val]
 have z2:ys.length=0→m*n=0:=fun h=>by rw[←hn,List.eq_nil_of_length_eq_zero h];simp[val]
 by_cases hx0:xs.length=0
 ·repeat (first |(refine wo rfl (fun k hk=>?_);simp(disch:=omega) only[go_sem,ξ,ζ];apply hk;clear hk k) |refine wkt rfl ?_ |refine wk0 ?_ |refine rg rfl rfl (fun K hK=>?_) |((first |refine ae ?_ |refine ac ?_);simp(disch:=decide) only[qs,qb,if_true,if_false,reduceIte]) |refine ah rfl (fun K hK=>?_) |refine ct rfl ?_ |((try simp(disch:=omega) only[go_sem,ξ,ζ]);(first |apply hK |(clear hK;apply hK) |(clear hK;clear hK;apply hK));clear hK;(try clear K);(try dsimp only[ag,qs,qb])))
  refine ai ?_;simp(disch:=omega) only[go_sem,ξ,ζ]
  rw[z1 hx0];exact N16.zero _
 by_cases hy0:ys.length=0
 ·repeat (first |(refine wo rfl (fun k hk=>?_);simp(disch:=omega) only[go_sem,ξ,ζ];apply hk;clear hk k) |refine wkt rfl ?_ |refine wk0 ?_ |refine rg rfl rfl (fun K hK=>?_) |((first |refine ae ?_ |refine ac ?_);simp(disch:=decide) only[qs,qb,if_true,if_false,reduceIte]) |refine ah rfl (fun K hK=>?_) |refine ct rfl ?_ |((try simp(disch:=omega) only[go_sem,ξ,ζ]);(first |apply hK |(clear hK;apply hK) |(clear hK;clear hK;apply hK));clear hK;(try clear K);(try dsimp only[ag,qs,qb])))
  refine ai ?_;simp(disch:=omega) only[go_sem,ξ,ζ]
  rw[z2 hy0];exact N16.zero _
 clear z1 z2
 repeat (first |(refine wo rfl (fun k hk=>?_);simp(disch:=omega) only[go_sem,ξ,ζ];apply hk;clear hk k) |refine wkt rfl ?_ |refine wk0 ?_ |refine rg rfl rfl (fun K hK=>?_) |((first |refine ae ?_ |refine ac ?_);simp(disch:=decide) only[qs,qb,if_true,if_false,reduceIte]) |refine ah rfl (fun K hK=>?_) |refine ct rfl ?_ |((try simp(disch:=omega) only[go_sem,ξ,ζ]);(first |apply hK |(clear hK;apply hK) |(clear hK;clear hK;apply hK));clear hK;(try clear K);(try dsimp only[ag,qs,qb])))
 refine cg (fun x:Nat×List Nat=>⟨[(0,.v (.slice a xs.length c)),(1,.v (.slice a' ys.length c')),(5,.s 0 0 (xs.length+ys.length) (xs.length+ys.length)),(26,.v (.slice a xs.length c)),(27,.v (.int .i64 xs.length)),(28,.v (.int .i64 x.1))],[uw x.2]⟩)
   (fun x h'=>Le h0 h'∧x.1≤xs.length∧x.2.length=xs.length+ys.length∧(∀d∈x.2,d < 65536)∧val 65536 (x.2.take (x.1+ys.length))=val 65536 (xs.take x.1)*val 65536 ys) (fun x=>xs.length - x.1) (0,List.replicate (xs.length+ys.length) 0) ?_ ⟨inferInstance,by simp,by simp,gG (by decide),by simp[val,mO]⟩ ?_
 ·simp(disch:=omega) only[go_sem,ξ,ζ]
 ·rintro⟨k,rs⟩ h1 ⟨hle,hk,hr,hlt,hi⟩
  dsimp only at hk hr hlt hi ⊢
  by_cases hkl:k < xs.length
  ·obtain⟨ad,rfl,hat⟩:=ha.rd h1 (i:=k) (by omega)
   have hx:=aM (by decide) hx16 k
   repeat (first |(refine wo rfl (fun k hk=>?_);simp(disch:=omega) only[go_sem,ξ,ζ,hat];apply hk;clear hk k) |refine wkt rfl ?_ |refine wk0 ?_ |refine rg rfl rfl (fun K hK=>?_) |((first |refine ae ?_ |refine ac ?_);simp(disch:=decide) only[qs,qb,if_true,if_false,reduceIte]) |refine ah rfl (fun K hK=>?_) |refine ct rfl ?_ |((try simp(disch:=omega) only[go_sem,ξ,ζ]);(first |apply hK |(clear hK;apply hK) |(clear hK;clear hK;apply hK));clear hK;(try clear K);(try dsimp only[ag,qs,qb])))
   refine cg (fun x:Nat×List Nat×Nat=>⟨[(0,.v (.slice (some ad) xs.length c)),(1,.v (.slice a' ys.length c')),(5,.s 0 0 (xs.length+ys.length) (xs.length+ys.length)),(26,.v (.slice (some ad) xs.length c)),(27,.v (.int .i64 xs.length)),(28,.v (.int .i64 k)),(6,.v (.int .i64 k)),(7,.v (.int .u32 (xs.getD k 0:Nat))),(8,.v (.int .u64 x.2.2)),(33,.v (.slice a' ys.length c')),(34,.v (.int .i64 ys.length)),(35,.v (.int .i64 x.1))],[uw x.2.1]⟩)
    (fun x h'=>Le h0 h'∧x.1≤ys.length∧x.2.1.length=xs.length+ys.length∧(∀d∈x.2.1,d < 65536)∧x.2.2 < 65536∧val 65536 (x.2.1.take (k+ys.length))+65536^(k+x.1)*x.2.2=val 65536 (rs.take (k+ys.length))+65536^k*(xs.getD k 0*val 65536 (ys.take x.1))) (fun x=>ys.length - x.1) (0,rs,0) ?_ ⟨hle,by simp,hr,hlt,by simp,by simp[val]⟩ ?_
   ·simp(disch:=omega) only[go_sem,ξ,ζ]
   ·rintro⟨j,rs',cy⟩ h2 ⟨hle',hj,hr',hlt',hcy,hi'⟩
    dsimp only at hj hr' hlt' hcy hi' ⊢
    by_cases hjl:j < ys.length
    ·obtain⟨ad',rfl,hat'⟩:=ha'.rd h2 (i:=j) (by omega)
     have hy:=aM (by decide) hy16 j
     have hd:=aM (by decide) hlt' (k+j)
     have hxy:xs.getD k 0*ys.getD j 0≤65535*65535:=qAk (by omega) (by omega)
     repeat (first |(refine wo rfl (fun k hk=>?_);simp(disch:=omega) only[go_sem,ξ,ζ,hat'];apply hk;clear hk k) |refine wkt rfl ?_ |refine wk0 ?_ |refine rg rfl rfl (fun K hK=>?_) |((first |refine ae ?_ |refine ac ?_);simp(disch:=decide) only[qs,qb,if_true,if_false,reduceIte]) |refine ah rfl (fun K hK=>?_) |refine ct rfl ?_ |((try simp(disch:=omega) only[go_sem,ξ,ζ]);(first |apply hK |(clear hK;apply hK) |(clear hK;clear hK;apply hK));clear hK;(try clear K);(try dsimp only[ag,qs,qb])))
     refine⟨(j+1,rs'.set (k+j) ((rs'.getD (k+j) 0+xs.getD k 0*ys.getD j 0+cy) % 65536),(rs'.getD (k+j) 0+xs.getD k 0*ys.getD j 0+cy) / 65536),?_,⟨hle',by dsimp only;omega,by simp[hr'],d9 hlt' (qBl _ (by decide)),by dsimp only;omega,?_⟩,by simp only;omega⟩
     ·simp(disch:=omega) only[go_sem,ξ,ζ]
     ·dsimp only
      rw[aq _ ys,←Nat.add_assoc,qAn,qAm,qAm,←σ _ (65536^j),ρ (xs.getD k 0) (65536^j),σ (65536^j),←σ _ (65536^j),←qAs]
      have e:rs'.getD (k+j) 0+xs.getD k 0*ys.getD j 0+cy=xs.getD k 0*ys.getD j 0+rs'.getD (k+j) 0+cy:=by omega
      rw[e]
      exact Dv (Nat.mod_add_div _ _).symm hi' (tV (by omega) (by omega))
    ·repeat (first |(refine rg rfl rfl (fun K hK=>?_);(repeat (first |(refine wo rfl (fun k hk=>?_);simp(disch:=omega) only[go_sem,ξ,ζ];apply hk;clear hk k) |refine wkt rfl ?_));(try refine wk0 ?_);apply hK;clear hK K;(try dsimp only[ag,qs,qb])) |((first |refine ae ?_ |refine ac ?_);simp(disch:=decide) only[qs,qb,if_true,if_false,reduceIte]) |refine ah rfl (fun K hK=>?_) |refine ct rfl ?_ |((first |refine hK _ _ ?_ |(clear hK;refine hK _ _ ?_) |(clear hK;clear hK;refine hK _ _ ?_));clear hK;(try clear K)))
     obtain rfl:j=ys.length:=by omega
     refine⟨(k+1,rs'.set (k+ys.length) cy),?_,⟨hle',by dsimp only;omega,by simp[hr'],d9 hlt' hcy,?_⟩,by simp only;omega⟩
     ·simp(disch:=omega) only[go_sem,ξ,ζ]
     ·dsimp only
      rw[show k+1+ys.length=k+ys.length+1 by omega,bO (by omega),hi',hi,aq _ xs,qAr (η _),Nat.add_mul,σ]
  ·repeat (first |(refine rg rfl rfl (fun K hK=>?_);(repeat (first |(refine wo rfl (fun k hk=>?_);simp(disch:=omega) only[go_sem,ξ,ζ];apply hk;clear hk k) |refine wkt rfl ?_));(try refine wk0 ?_);apply hK;clear hK K;(try dsimp only[ag,qs,qb])) |((first |refine ae ?_ |refine ac ?_);simp(disch:=decide) only[qs,qb,if_true,if_false,reduceIte]) |refine ah rfl (fun K hK=>?_) |refine ct rfl ?_ |((first |refine hK _ _ ?_ |(clear hK;refine hK _ _ ?_) |(clear hK;clear hK;refine hK _ _ ?_));clear hK;(try clear K)))
   obtain rfl:k=xs.length:=by omega
   refine fk [.o 0,.p 0,.o 1,.o 2] rfl rfl (fun K hK=>?_);(repeat (first |(refine wo rfl (fun k hk=>?_);simp(disch:=omega) only[go_sem,ξ,ζ];apply hk;clear hk k) |refine wkt rfl ?_));(try refine wk0 ?_)
   refine wkp ?_;simp(disch:=omega) only[go_sem,ξ,ζ];intro b h2 hs2 hb;(repeat (first |(refine wo rfl (fun k hk=>?_);simp(disch:=omega) only[go_sem,ξ,ζ];apply hk;clear hk k) |refine wkt rfl ?_));(try refine wk0 ?_)
   have hA:Arr h2 (some ⟨b,0,none⟩) (xs.length+ys.length) rs:=.of_row (fun hne=>hb ((uw_ne _).1 hne)) (fun x hx=>by have:=hlt x hx;omega) (by omega) (by omega)
   have hval:val 65536 rs=m*n:=by
    rw[qAr (by omega),qAr (η _),hm,hn] at hi
    exact hi
   refine cN rfl rfl rfl rfl (by exact nY hA hlt hr) ?_;rintro v h3 hs3 hv';(repeat (first |(refine wo rfl (fun k hk=>?_);simp(disch:=omega) only[go_sem,ξ,ζ];apply hk;clear hk k) |refine wkt rfl ?_));(try refine wk0 ?_)
   (try (simp(disch:=omega) only[go_sem,ξ,ζ]));apply hK;clear hK;(try clear K);(try dsimp only[ag,qs])
   refine ai ?_;simp(disch:=omega) only[go_sem,ξ,ζ]
   rwa[hval] at hv'
theorem FU {h0 h:PH} [Le h0 h] {v:Value} {m d:Nat} (hv:N16 h0 v m) (bm:bl m≤2^40) (hd0:0 < d) (hd:d < 65536):Spec mach 149 #[v,.int .u32 d] h (fun v h'=>∃q,v=.tuple #[q,.int .u32 (m % d:Nat)]∧N16 h' q (m / d)) NP:=by
 obtain⟨a,c,xs,rfl,ha,hxs,hm,hx16⟩:=hv.out
 have hs:xs.length≤2^40:=by have:=cr m;rw[hxs] at this;omega
 refine Spec.go [(9,.t (.s [0] (.p 0 (.s [1,2,3,4] .d))))] Tryz.func149 rfl rfl (by kernel_rfl) fun C _=>?_
 try simp(maxSteps:=999999) (disch:=omega) only[go_sem,ξ,ζ]
 refine lp [] (fun x:Nat×List Nat×Nat=>⟨[(0,.v (.slice a xs.length c)),(1,.v (.int .u32 d)),(6,.s 0 0 xs.length xs.length),(7,.v (.int .u32 x.2.2)),(8,.v (.int .i64 ((x.1:Int) - 1)))],[uw x.2.1]⟩) (fun x h'=>Le h0 h'∧x.1≤xs.length∧x.2.1.length=xs.length∧(∀d∈x.2.1,d < 65536)∧x.2.2 < d∧val 65536 (xs.drop x.1)=d*val 65536 (x.2.1.drop x.1)+x.2.2) (fun x=>x.1) (xs.length,List.replicate xs.length 0,0) ?_ ⟨?_,by simp,by simp,gG (by decide),hd0,?_⟩ (by kernel_rfl) ?_
 ·try simp(maxSteps:=999999) (disch:=omega) only[go_sem,ξ,ζ]
 ·exact inferInstance
 ·simp[val]
 ·rintro⟨k,rs,r⟩ h1 ⟨hle,hk,hr,hlt,hrd,hi⟩
  dsimp only at hk hr hlt hrd hi ⊢
  by_cases hk0:k=0
  ·subst hk0
   try simp(maxSteps:=999999) (disch:=omega) only[go_sem,ξ,ζ]
   intro b h2 hs2 hb
   try simp(maxSteps:=999999) (disch:=omega) only[go_sem,ξ,ζ]
   have hA:Arr h2 (some ⟨b,0,none⟩) xs.length rs:=.of_row (fun hne=>hb ((uw_ne _).1 hne)) (fun x hx=>by have:=hlt x hx;omega) (by omega) (by omega)
   simp only[List.drop_zero] at hi
   rw[hm] at hi
   have e1:m / d=val 65536 rs:=by rw[hi,Nat.mul_add_div hd0,Nat.div_eq_of_lt hrd,Nat.add_zero]
   have e2:m % d=r:=by rw[hi,Nat.mul_add_mod,qBi hrd]
   refine caN (by exact nY hA hlt hr) ?_;rintro v h3 hs3 hv'
   try simp(maxSteps:=999999) (disch:=omega) only[go_sem,ξ,ζ]
   exact⟨v,by rw[e2],by rw[e1];exact hv'⟩
  ·obtain⟨k,rfl⟩:∃j,k=j+1:=⟨k - 1,by omega⟩
   obtain⟨ad,rfl,hat⟩:=ha.rd h1 (i:=k) (by omega)
   have hx:=aM (by decide) hx16 k
   have hq:(r*65536+xs.getD k 0) / d < 65536:=by
    apply Nat.div_lt_of_lt_mul
    have:=ψ 65536 (show r+1≤d by omega)
    omega
   have hm':(r*65536+xs.getD k 0) % d < d:=qBl _ hd0
   have hs2:d*((r*65536+xs.getD k 0) / d)+(r*65536+xs.getD k 0) % d=r*65536+xs.getD k 0:=Nat.div_add_mod _ _
   obtain⟨q,hqe⟩:∃q,(r*65536+xs.getD k 0) / d=q:=⟨_,rfl⟩
   obtain⟨r',hre⟩:∃q,(r*65536+xs.getD k 0) % d=q:=⟨_,rfl⟩
   rw[hqe] at hq hs2
   rw[hre] at hm' hs2
   try simp(maxSteps:=999999) (disch:=omega) only[go_sem,ξ,ζ]
   refine aE hat ?_
   try simp(maxSteps:=999999) (disch:=omega) only[go_sem,ξ,ζ,hqe,hre]
   dsimp only[lpE];refine⟨(k,rs.set k q,r'),?_,⟨hle,by dsimp only;omega,by simp[hr],d9 hlt hq,hm',?_⟩,by simp only;omega⟩
   ·try simp(maxSteps:=999999) (disch:=omega) only[go_sem,ξ,ζ]
   ·dsimp only
    rw[mJ (by omega),mJ (xs:=rs.set k q) (by simp[hr];omega),oe (by omega),List.drop_set_of_lt (by omega),val,val,hi]
    rw[qAm d,qBg d,qAm 65536]
    omega
theorem HE {x r cy:Nat} (hc:cy < 2^r):x*2^r ||| cy=x*2^r+cy:=by
 rw[Nat.or_comm,ρ,FD hc,Nat.add_comm]
theorem yE {V P cy X Q R p x s:Nat} (hi:V+P*cy=Q*(R*X)) (hs:s=x*R+cy) (hP:P=Q*p):V+P*(s % 65536)+P*65536*(s / 65536)=Q*(R*(X+p*x)):=by
 have h1:=dm P 65536 s
 have h2:P*s=Q*(R*(p*x))+P*cy:=by rw[hs,qAm,hP];simp only[σ,ρ,qBg]
 rw[qAm R,qAm Q]
 omega
theorem vO (k:Nat):2^(16*k)=65536^k:=by
 rw[Nat.pow_mul,show(2:Nat)^16=65536 from by decide]
theorem app_of {h0 h:PH} [Le h0 h] {S:AS} {b c:Nat} {a:Option Addr} {xs:List Nat} {k:AS→PH→AV→Prop} {x:AV} (ha:Arr h0 a c xs) (hk:appB S h b xs.length (uw xs) k x):appP S h b a xs.length k x:=
 ⟨uw xs,uw_length xs,fun hne=>ha.cells h hne,uw_one xs,hk⟩
theorem rep1 (y:Nat):(List.replicate 1 0).set 0 y=[y]:=rfl
theorem gf {h0 h:PH} [Le h0 h] {v:Value} {m n:Nat} (hv:N16 h0 v m) (bm:bl m+n≤2^40):Spec mach 150 #[v,.int .i64 n] h (fun v h'=>N16 h' v (m*2^n)) NP:=by
 obtain⟨a,c,xs,rfl,ha,hxs,hm,hx16⟩:=hv.out
 have hs:xs.length+n≤2^40:=by have:=cr m;rw[hxs] at this;omega
 refine Spec.go [(2,.t (.s [0,1,2] (.p 1 (.s [3] .d)))),(12,.t (.s [0,1,2,3] (.p 2 (.s [4,5] .d))))] Tryz.func150 rfl rfl (by kernel_rfl) fun C _=>?_
 try simp(maxSteps:=999999) (disch:=omega) only[go_sem,ξ,ζ]
 by_cases hz:xs.length=0∨n=0
 ·have e0:m*2^n=m:=by
   rcases hz with hz |hz
   ·rw[←hm,List.eq_nil_of_length_eq_zero hz];simp[val]
   ·rw[hz,Nat.pow_zero,qAz]
  rw[e0]
  rcases(show xs.length=0∨¬xs.length=0∧n=0 by omega) with hz1 |⟨hz1,rfl⟩<;>
  ·try simp(maxSteps:=999999) (disch:=omega) only[go_sem,ξ,ζ]
   refine app_of ha ?_
   try simp(maxSteps:=999999) (disch:=omega) only[go_sem,ξ,ζ]
   intro junk
   try simp(maxSteps:=999999) (disch:=omega) only[go_sem,ξ,ζ]
   intro b h1 hs1 hb
   try simp(maxSteps:=999999) (disch:=omega) only[go_sem,ξ,ζ]
   exact N16.of_pub (ds:=xs) (junk:=junk) hb hxs (by omega) rfl (by omega)
 ·have hx0:¬xs.length=0:=fun e=>hz (.inl e)
  have hn0:¬n=0:=fun e=>hz (.inr e)
  have hp:2^(n % 16)≤32768:=qAv (show 0 < 2 by omega) (show n % 16≤15 by omega)
  have hp0:0 < 2^(n % 16):=qAo (by omega)
  have hrep:uw (List.replicate (n / 16+xs.length+1) 0)=uw (List.replicate (n / 16) 0) ++uw (List.replicate (xs.length+1) 0):=by
   rw[←rj,List.replicate_append_replicate,Nat.add_assoc]
  try simp(maxSteps:=999999) (disch:=omega) only[go_sem,ξ,ζ]
  refine lpSl [(2,.t (.s [0,1,2] (.p 1 (.s [3] .d))))] (fun x:Nat×List Nat×List Value×Nat=>⟨[(1,.v (.int .i64 n)),(5,.s 0 0 x.2.1.length (x.2.1.length+x.2.2.1.length)),(6,.v (.int .u32 x.2.2.2)),(29,.v (.slice a xs.length c)),(30,.v (.int .i64 xs.length)),(31,.v (.int .i64 x.1))],[uw x.2.1 ++x.2.2.1]⟩) (fun x h'=>Le h0 h'∧x.1≤xs.length∧x.2.1.length=n / 16+x.1∧(∀d∈x.2.1,d < 65536)∧x.2.2.2 < 2^(n % 16)∧val 65536 x.2.1+65536^x.2.1.length*x.2.2.2=65536^(n / 16)*(2^(n % 16)*val 65536 (xs.take x.1))) (fun x=>xs.length - x.1) (0,List.replicate (n / 16) 0,uw (List.replicate (xs.length+1) 0),0) [0] ?_ ⟨inferInstance,by simp,by simp,gG (by decide),hp0,by simp[val,mO]⟩ (by kernel_rfl) ?_
  ·try simp(maxSteps:=999999) (disch:=omega) only[go_sem,ξ,ζ,hrep,←Nat.add_assoc]
  ·rintro⟨i,ds,jk,cy⟩ h1 ⟨hle,hk,hdl,hlt,hcy,hi⟩
   dsimp only at hk hdl hlt hcy hi ⊢
   by_cases hkl:i < xs.length
   ·obtain⟨ad,rfl,hat⟩:=ha.rd h1 (i:=i) (by omega)
    have hx:=aM (by decide) hx16 i
    have hb:xs.getD i 0*2^(n % 16)≤65535*32768:=qAk (by omega) hp
    have hor:=HE (x:=xs.getD i 0) hcy
    try simp(maxSteps:=999999) (disch:=omega) only[go_sem,ξ,ζ]
    refine aE hat ?_
    try simp(maxSteps:=999999) (disch:=omega) only[go_sem,ξ,ζ,hor,rep1,uw_one]
    intro junk
    try simp(maxSteps:=999999) (disch:=omega) only[go_sem,ξ,ζ]
    dsimp only[lpS];refine⟨(i+1,ds ++[(xs.getD i 0*2^(n % 16)+cy) % 65536],junk,(xs.getD i 0*2^(n % 16)+cy) / 65536),[2],?_,⟨hle,by dsimp only;omega,by simp;omega,gS hlt (qBl _ (by decide)),?_,?_⟩,by simp;omega⟩
    ·try simp(maxSteps:=999999) (disch:=omega) only[go_sem,ξ,ζ,fB]
    ·dsimp only
     apply Nat.div_lt_of_lt_mul
     have:=ψ (2^(n % 16)) (show xs.getD i 0+1≤65536 by omega)
     rw[Nat.add_mul] at this
     omega
    ·simp only[qAp,List.length_singleton]
     rw[fj,aq _ xs,qAn]
     refine yE hi rfl ?_
     rw[hdl,qAs]
   ·have hkl':i=xs.length:=by omega
    subst hkl'
    rw[qAr (η _),hm] at hi
    have hval:val 65536 (ds ++[cy])=m*2^n:=by
     rw[fj,hi,←vO,←σ,←qAs,Nat.div_add_mod,ρ]
    have hlt':=gS hlt (show cy < 65536 by omega)
    try simp(maxSteps:=999999) (disch:=omega) only[go_sem,ξ,ζ,rep1,uw_one]
    intro junk
    try simp(maxSteps:=999999) (disch:=omega) only[go_sem,ξ,ζ]
    intro b h2 hs2 hb
    try simp(maxSteps:=999999) (disch:=omega) only[go_sem,ξ,ζ]
    simp only[fB] at hb
    have hA:Arr h2 (some ⟨b,0,none⟩) (ds.length+1+junk.length) (ds ++[cy]):=.of_app hb hlt' (by simp;omega) (by simp)
    refine caN (by exact nY hA hlt' (by simp)) ?_;rintro _ h3 _ hv3;obtain⟨_,_,_,rfl,hv3⟩:=hv3.sl
    try simp(maxSteps:=999999) (disch:=omega) only[go_sem,ξ,ζ]
    rwa[hval] at hv3
theorem J0 {h':PH} {b L c:Nat} {xs:List Nat} {junk:List Value} (hb:h' b=some (uw xs ++junk).toArray) (hlt:∀x∈xs,x < 65536) (hs:xs.length≤2^46) (hl:xs.length=L) (hc:xs.length≤c):
  Spec mach 133 #[.slice (some ⟨b,0,none⟩) L c] h' (fun v _=>v=.slice (some ⟨b,0,none⟩) (W 65536 (val 65536 xs)).length c) NP:=by
 subst hl
 exact Aa (h0:=h') (.of_app (fun _=>hb) hlt hs hc) hlt
theorem Ez {h0 h:PH} [Le h0 h] {v:Value} {m n:Nat} (hv:N16 h0 v m) (hm0:m≠0) (bm:bl m+n≤2^40):SpecO mach 150 #[v,.int .i64 n] h (fun row len _=>∃junk,row=uw (W 65536 (m*2^n)) ++junk∧len=(W 65536 (m*2^n)).length):=by
 obtain⟨a,c,xs,rfl,ha,hxs,hm,hx16⟩:=hv.out
 have hs:xs.length+n≤2^40:=by have:=cr m;rw[hxs] at this;omega
 have hx0:¬xs.length=0:=by intro e;exact hm0 (by rw[←hm,List.eq_nil_of_length_eq_zero e];rfl)
 refine SpecO.enter (args:=[_,_]) (n:=55) Tryz.func150 rfl (by kernel_rfl) rfl (by simp) 4 rfl (fun C _=>?_)
 by_cases hz:n=0
 ·subst hz
  rw[Nat.pow_zero,qAz]
  have huw:uw xs≠[]:=(uw_ne xs).2 (fun e=>hx0 (by rw[e];rfl))
  repeat (first |(refine wo rfl (fun k hk=>?_);simp(disch:=omega) only[go_sem,ξ,ζ];apply hk;clear hk k) |refine wkt rfl ?_ |refine wk0 ?_ |refine rg rfl rfl (fun K hK=>?_) |((first |refine ae ?_ |refine ac ?_);simp(disch:=decide) only[qs,qb,if_true,if_false,reduceIte]) |refine ah rfl (fun K hK=>?_) |refine ct rfl ?_ |((try simp(disch:=omega) only[go_sem,ξ,ζ]);(first |apply hK |(clear hK;apply hK) |(clear hK;clear hK;apply hK));clear hK;(try clear K);(try dsimp only[ag,qs,qb])))
  refine wo rfl (fun k hk=>?_);simp(disch:=omega) only[go_sem,ξ,ζ]
  refine⟨uw xs,by simp[uw],fun hne=>?_,uV xs,fun junk=>?_⟩
  ·obtain⟨ad',h1,h2⟩:=ha.cells h hne
   exact⟨ad',h1,h2⟩
  apply hk;clear hk k
  (repeat (first |(refine wo rfl (fun k hk=>?_);simp(disch:=omega) only[go_sem,ξ,ζ];apply hk;clear hk k) |refine wkt rfl ?_));(try refine wk0 ?_)
  (try (simp(disch:=omega) only[go_sem,ξ,ζ]));apply hK;clear hK;(try clear K);(try dsimp only[ag,qs])
  refine ai ?_;simp(disch:=omega) only[go_sem,ξ,ζ]
  exact⟨by simp[huw],junk,by rw[hxs],by rw[hxs]⟩
 ·have hn0:¬n=0:=hz
  have hp:2^(n % 16)≤32768:=qAv (show 0 < 2 by omega) (show n % 16≤15 by omega)
  have hp0:0 < 2^(n % 16):=qAo (by omega)
  have hrep:uw (List.replicate (n / 16+xs.length+1) 0)=uw (List.replicate (n / 16) 0) ++uw (List.replicate (xs.length+1) 0):=by
   rw[←rj,List.replicate_append_replicate,Nat.add_assoc]
  repeat (first |(refine wo rfl (fun k hk=>?_);simp(disch:=omega) only[go_sem,ξ,ζ];apply hk;clear hk k) |refine wkt rfl ?_ |refine wk0 ?_ |refine rg rfl rfl (fun K hK=>?_) |((first |refine ae ?_ |refine ac ?_);simp(disch:=decide) only[qs,qb,if_true,if_false,reduceIte]) |refine ah rfl (fun K hK=>?_) |refine ct rfl ?_ |((try simp(disch:=omega) only[go_sem,ξ,ζ]);(first |apply hK |(clear hK;apply hK) |(clear hK;clear hK;apply hK));clear hK;(try clear K);(try dsimp only[ag,qs,qb])))
  refine eO (fun x:Nat×List Nat×List Value×Nat=>⟨[(1,.v (.int .i64 n)),(5,.s 0 0 x.2.1.length (x.2.1.length+x.2.2.1.length)),(6,.v (.int .u32 x.2.2.2)),(29,.v (.slice a xs.length c)),(30,.v (.int .i64 xs.length)),(31,.v (.int .i64 x.1))],[uw x.2.1 ++x.2.2.1]⟩)
   (fun x h'=>Le h0 h'∧x.1≤xs.length∧x.2.1.length=n / 16+x.1∧(∀d∈x.2.1,d < 65536)∧x.2.2.2 < 2^(n % 16)∧val 65536 x.2.1+65536^x.2.1.length*x.2.2.2=65536^(n / 16)*(2^(n % 16)*val 65536 (xs.take x.1))) (fun x=>xs.length - x.1) (0,List.replicate (n / 16) 0,uw (List.replicate (xs.length+1) 0),0) [0] ?_ ⟨inferInstance,by simp,by simp,gG (by decide),hp0,by simp[val,mO]⟩ ?_
  ·simp(disch:=omega) only[go_sem,ξ,ζ,hrep,←Nat.add_assoc]
  ·rintro⟨i,ds,jk,cy⟩ h1 ⟨hle,hk,hdl,hlt,hcy,hi⟩
   dsimp only at hk hdl hlt hcy hi ⊢
   by_cases hkl:i < xs.length
   ·obtain⟨ad,rfl,hat⟩:=ha.rd h1 (i:=i) (by omega)
    have hx:=aM (by decide) hx16 i
    have hb:xs.getD i 0*2^(n % 16)≤65535*32768:=qAk (by omega) hp
    have hor:=HE (x:=xs.getD i 0) hcy
    repeat (first |(refine wo rfl (fun k hk=>?_);simp(disch:=omega) only[go_sem,ξ,ζ,hat,hor];apply hk;clear hk k) |refine wkt rfl ?_ |refine wk0 ?_ |refine rg rfl rfl (fun K hK=>?_) |((first |refine ae ?_ |refine ac ?_);simp(disch:=decide) only[qs,qb,if_true,if_false,reduceIte]) |refine ah rfl (fun K hK=>?_) |refine ct rfl ?_ |((try simp(disch:=omega) only[go_sem,ξ,ζ]);(first |apply hK |(clear hK;apply hK) |(clear hK;clear hK;apply hK));clear hK;(try clear K);(try dsimp only[ag,qs,qb])))
    refine wo rfl (fun k hk=>?_);simp(disch:=omega) only[go_sem,ξ,ζ]
    intro junk
    apply hk;clear hk k
    (repeat (first |(refine wo rfl (fun k hk=>?_);simp(disch:=omega) only[go_sem,ξ,ζ];apply hk;clear hk k) |refine wkt rfl ?_));(try refine wk0 ?_)
    repeat (first |(refine wo rfl (fun k hk=>?_);simp(disch:=omega) only[go_sem,ξ,ζ];apply hk;clear hk k) |refine wkt rfl ?_ |refine wk0 ?_ |refine rg rfl rfl (fun K hK=>?_) |((first |refine ae ?_ |refine ac ?_);simp(disch:=decide) only[qs,qb,if_true,if_false,reduceIte]) |refine ah rfl (fun K hK=>?_) |refine ct rfl ?_ |((try simp(disch:=omega) only[go_sem,ξ,ζ]);(first |apply hK |(clear hK;apply hK) |(clear hK;clear hK;apply hK));clear hK;(try clear K);(try dsimp only[ag,qs,qb])))
    refine⟨(i+1,ds ++[(xs.getD i 0*2^(n % 16)+cy) % 65536],junk,(xs.getD i 0*2^(n % 16)+cy) / 65536),[2],?_,⟨hle,by dsimp only;omega,by simp;omega,gS hlt (qBl _ (by decide)),?_,?_⟩,by simp;omega⟩
    ·simp(disch:=omega) only[go_sem,ξ,ζ,fB]
    ·dsimp only
     apply Nat.div_lt_of_lt_mul
     have:=ψ (2^(n % 16)) (show xs.getD i 0+1≤65536 by omega)
     rw[Nat.add_mul] at this
     omega
    ·simp only[qAp,List.length_singleton]
     rw[fj,aq _ xs,qAn]
     refine yE hi rfl ?_
     rw[hdl,qAs]
   ·have hkl':i=xs.length:=by omega
    subst hkl'
    rw[qAr (η _),hm] at hi
    have hval:val 65536 (ds ++[cy])=m*2^n:=by
     rw[fj,hi,←vO,←σ,←qAs,Nat.div_add_mod,ρ]
    have hlt':=gS hlt (show cy < 65536 by omega)
    repeat (first |(refine wo rfl (fun k hk=>?_);simp(disch:=omega) only[go_sem,ξ,ζ];apply hk;clear hk k) |refine wkt rfl ?_ |refine wk0 ?_ |refine rg rfl rfl (fun K hK=>?_) |((first |refine ae ?_ |refine ac ?_);simp(disch:=decide) only[qs,qb,if_true,if_false,reduceIte]) |refine ah rfl (fun K hK=>?_) |refine ct rfl ?_ |((try simp(disch:=omega) only[go_sem,ξ,ζ]);(first |apply hK |(clear hK;apply hK) |(clear hK;clear hK;apply hK));clear hK;(try clear K);(try dsimp only[ag,qs,qb])))
    refine wo rfl (fun k hk=>?_);simp(disch:=omega) only[go_sem,ξ,ζ]
    intro junk
    apply hk;clear hk k
    simp only[fB]
    refine wo rfl (fun k hk=>?_);simp(disch:=omega) only[go_sem,ξ,ζ]
    refine IZ (R:=fun x=>x=.s 2 0 (W 65536 (m*2^n)).length (ds.length+1+junk.length)) 2 rfl ?_ rfl (fun b h' hs hb=>?_) ?_
    ·intro e
     have:=congrArg List.length e
     simp[AS.box,uw] at this
    ·haveI:Step h1 h':=hs
     refine(J0 (L:=ds.length+1) (c:=ds.length+1+junk.length) hb hlt' (by simp;omega) (by simp) (by simp)).mono (fun v h2 _ hv=>⟨_,rfl,rfl,?_⟩) (fun _ _ _ h=>h)
     rw[hv,hval];rfl
    rintro x rfl
    apply hk;clear hk k
    (repeat (first |(refine wo rfl (fun k hk=>?_);simp(disch:=omega) only[go_sem,ξ,ζ];apply hk;clear hk k) |refine wkt rfl ?_));(try refine wk0 ?_)
    (try (simp(disch:=omega) only[go_sem,ξ,ζ]));apply hK;clear hK;(try clear K);(try dsimp only[ag,qs])
    obtain⟨q,hq,hqW⟩:=xx B16 (ds ++[cy]) hlt'
    rw[hval] at hqW
    refine ai ?_;simp(disch:=omega) only[go_sem,ξ,ζ]
    refine⟨by simp[uw],uw ((ds ++[cy]).drop q) ++junk,?_⟩
    rw[hqW,←List.append_assoc,←rj,List.take_append_drop]
theorem DY {t r:Nat} (hr:r≤16):(t % 65536+t / 65536 % 65536*65536) / 2^r % 65536=t / 2^r % 65536:=by
 have hp:0 < 2^r:=qAo (by omega)
 have e:(65536:Nat)=2^r*2^(16 - r):=by rw[←qAs,show r+(16 - r)=16 by omega]
 have h1:t=2^r*(65536*(2^(16 - r)*(t / 65536 / 65536)))+(t % 65536+t / 65536 % 65536*65536):=by
  have:2^r*(65536*(2^(16 - r)*(t / 65536 / 65536)))=65536*65536*(t / 65536 / 65536):=by
   rw[qBg,←σ (2^r),←e,σ]
  omega
 conv=>rhs;rw[h1]
 rw[Nat.mul_add_div hp,Nat.mul_add_mod]
theorem addr_add (a:Addr) (j k:Nat):(a.add j).add k=a.add (j+k):=by
 unfold Addr.add
 by_cases h1:j=0<;>by_cases h2:k=0<;>simp[h1,h2,Nat.add_assoc]
theorem Arr.drop {h:PH} {ad:Addr} {c:Nat} {xs:List Nat} (r:Arr h (some ad) c xs) (k:Nat) (hk:k≤xs.length):Arr h (some (ad.add k)) (c - k) (xs.drop k):=
 ⟨by have:=r.cap;simp;omega,by have:=r.small;simp;omega,fun x hx=>r.lt x (List.mem_of_mem_drop hx),fun i x hx=>⟨_,rfl,by
  rw[List.getElem?_drop] at hx
  obtain⟨ad',h1,h2⟩:=r.at_ _ _ hx
  cases h1
  rw[←h2,addr_add]⟩⟩
theorem CD {h0 h:PH} [Le h0 h] {v:Value} {m n:Nat} (hv:N16 h0 v m) (bm:bl m≤2^40) (hn:n≤2^40):Spec mach 152 #[v,.int .i64 n] h (fun v h'=>N16 h' v (m / 2^n)) NP:=by
 obtain⟨a,c,xs,rfl,ha,hxs,hm,hx16⟩:=hv.out
 have hs:xs.length≤2^40:=by have:=cr m;rw[hxs] at this;omega
 have hp:0 < 2^(n % 16):=qAo (by omega)
 have h2n:2^n=65536^(n / 16)*2^(n % 16):=by rw[←vO,←qAs,Nat.div_add_mod]
 have hml:m < 65536^xs.length:=by rw[←hxs];exact cW (by decide) m
 have hdig:∀i,xs.getD i 0=m / 65536^i % 65536:=fun i=>by rw[←hxs,rO (by decide)]
 refine Spec.go [(13,.t (.p 0 (.s [0,1,2] .d)))] Tryz.func152 rfl rfl (by kernel_rfl) fun C _=>?_
 try simp(maxSteps:=999999) (disch:=omega) only[go_sem,ξ,ζ]
 by_cases hx0:xs.length≤n / 16
 ·try simp(maxSteps:=999999) (disch:=omega) only[go_sem,ξ,ζ]
  have:m / 2^n=0:=by
   rw[h2n]
   apply Nat.div_eq_of_lt
   have h1:=qAv (show 0 < 65536 by decide) hx0
   have h2:=ω (65536^(n / 16)) hp
   omega
  rw[this];exact N16.zero _
 obtain⟨ad0,rfl,_⟩:=ha.get (i:=0) (by omega)
 have hcap:=ha.cap
 have hif:(if c=n / 16 then some ad0 else some (ad0.add (n / 16)))=some (ad0.add (n / 16)):=if_neg (by omega)
 have hlen:(xs.drop (n / 16)).length=xs.length - n / 16:=by simp
 have hA:=ha.drop (n / 16) (by omega)
 obtain⟨ys,hys⟩:∃ys,xs.drop (n / 16)=ys:=⟨_,rfl⟩
 rw[hys] at hlen hA
 have hdy:∀i,ys.getD i 0=m / 65536^(n / 16+i) % 65536:=fun i=>by rw[←hdig,←hys];simp[qAy,List.getElem?_drop]
 have hy16:∀x∈ys,x < 65536:=fun x hx=>hx16 x (by rw[←hys] at hx;exact List.mem_of_mem_drop hx)
 try simp(maxSteps:=999999) (disch:=omega) only[go_sem,ξ,ζ,hif]
 rw[←hlen]
 refine lpSl [] (fun x:List Nat×List Value=>⟨[(0,.v (.slice (some (ad0.add (n / 16))) ys.length (c - n / 16))),(1,.v (.int .i64 n)),(5,.s 0 0 x.1.length (x.1.length+x.2.length)),(25,.v (.int .i64 ys.length)),(26,.v (.int .i64 x.1.length))],[uw x.1 ++x.2]⟩) (fun x h'=>Le h0 h'∧x.1.length≤ys.length∧(∀d∈x.1,d < 65536)∧val 65536 x.1=(m / 2^n) % 65536^x.1.length) (fun x=>ys.length - x.1.length) ([],uw (List.replicate ys.length 0)) [0] ?_ ⟨inferInstance,by simp,by simp,by simp[val,Nat.mod_one]⟩ (by kernel_rfl) ?_
 ·try simp(maxSteps:=999999) (disch:=omega) only[go_sem,ξ,ζ]
 ·rintro⟨ds,jk⟩ h1 ⟨hle,hk,hlt,hi⟩
  dsimp only at hk hlt hi ⊢
  by_cases hkl:ds.length < ys.length
  ·obtain⟨ad,hade,hat⟩:=hA.rd h1 (i:=ds.length) (by omega)
   obtain rfl:ad0.add (n / 16)=ad:=by simpa using hade
   have hx:=aM (by decide) hy16 ds.length
   have hd:m / 2^n / 65536^ds.length=m / 65536^(n / 16+ds.length) / 2^(n % 16):=by
    rw[h2n,Nat.div_div_eq_div_mul,Nat.div_div_eq_div_mul,qAs];congr 1;simp only[σ,ρ,qBg]
   have hdd:=DY (t:=m / 65536^(n / 16+ds.length)) (r:=n % 16) (by omega)
   rw[←hd,Nat.div_div_eq_div_mul m,←qAn,←hdy,Nat.succ_eq_add_one,Nat.add_assoc,←hdy] at hdd
   by_cases hk1:ds.length+1 < ys.length
   ·obtain⟨ad',h',hat'⟩:=hA.rd h1 (i:=ds.length+1) (by omega)
    obtain rfl:ad0.add (n / 16)=ad':=by simpa using h'
    have hx':=aM (by decide) hy16 (ds.length+1)
    simp(disch:=omega) only[go_sem,ξ,ζ] at hat'
    try simp(maxSteps:=999999) (disch:=omega) only[go_sem,ξ,ζ]
    refine aE hat ?_
    try simp(maxSteps:=999999) (disch:=omega) only[go_sem,ξ,ζ]
    refine aE hat' ?_
    try simp(maxSteps:=999999) (disch:=omega) only[go_sem,ξ,ζ,rep1,uw_one]
    intro junk
    try simp(maxSteps:=999999) (disch:=omega) only[go_sem,ξ,ζ]
    dsimp only[lpS];refine⟨(ds ++[(ys.getD ds.length 0+ys.getD (ds.length+1) 0*65536) / 2^(n % 16) % 65536],junk),[2],?_,⟨hle,by simp;omega,gS hlt (qBl _ (by decide)),?_⟩,by simp;omega⟩
    ·try simp(maxSteps:=999999) (disch:=omega) only[go_sem,ξ,ζ,fB]
    ·simp only[qAp,List.length_singleton]
     rw[fj,hi,Nat.mod_pow_succ,←hdd]
   ·have hx':ys.getD (ds.length+1) 0=0:=getD_none (by omega)
    rw[hx',Nat.zero_mul,Nat.add_zero] at hdd
    try simp(maxSteps:=999999) (disch:=omega) only[go_sem,ξ,ζ]
    refine aE hat ?_
    try simp(maxSteps:=999999) (disch:=omega) only[go_sem,ξ,ζ,rep1,uw_one]
    intro junk
    try simp(maxSteps:=999999) (disch:=omega) only[go_sem,ξ,ζ]
    dsimp only[lpS];refine⟨(ds ++[ys.getD ds.length 0 / 2^(n % 16) % 65536],junk),[2],?_,⟨hle,by simp;omega,gS hlt (qBl _ (by decide)),?_⟩,by simp;omega⟩
    ·try simp(maxSteps:=999999) (disch:=omega) only[go_sem,ξ,ζ,fB]
    ·simp only[qAp,List.length_singleton]
     rw[fj,hi,Nat.mod_pow_succ,←hdd]
  ·have hkl':ds.length=ys.length:=by omega
   have hval:val 65536 ds=m / 2^n:=by
    rw[hi,qBi]
    rw[h2n,←Nat.div_div_eq_div_mul]
    refine Nat.lt_of_le_of_lt (Nat.div_le_self _ _) ?_
    rw[Nat.div_lt_iff_lt_mul (qAo (by decide)),←qAs,show ds.length+n / 16=xs.length by omega]
    exact hml
   try simp(maxSteps:=999999) (disch:=omega) only[go_sem,ξ,ζ]
   intro b h2 hs2 hb
   try simp(maxSteps:=999999) (disch:=omega) only[go_sem,ξ,ζ]
   have hA2:Arr h2 (some ⟨b,0,none⟩) (ds.length+jk.length) ds:=.of_app hb hlt (by omega) (by omega)
   refine caN (by exact nY hA2 hlt rfl) ?_;rintro _ h3 _ hv3;obtain⟨_,_,_,rfl,hv3⟩:=hv3.sl
   try simp(maxSteps:=999999) (disch:=omega) only[go_sem,ξ,ζ]
   rwa[hval] at hv3
set_option maxHeartbeats 4000000
theorem Jz {h0 h:PH} [Le h0 h] {a:Option Addr} {c L:Nat} {xs:List Nat} {v:Value} {d g:Nat} (ha:Arr h0 a c xs) (hlt:∀x∈xs,x < 65536) (hl:xs.length=L) (hv:N16 h0 v d) (bd:bl d≤2^39) (hg:g < 65536):
  Spec mach 218 #[.slice a L c,v,.int .u64 g] h (fun r _=>r=.bool (decide (val 65536 xs < d*g))) NP:=by
 obtain⟨va,vl,vc,rfl,hv⟩:=hv.sl
 have bg:bl g≤16:=bl_le.2 hg
 refine Spec.enter (args:=[_,_,_]) (n:=17) Tryz.func218 rfl (by kernel_rfl) rfl (by simp) [.tmp 6] rfl (fun C _=>?_)
 repeat (first |(refine wo rfl (fun k hk=>?_);simp(disch:=omega) only[go_sem,ξ,ζ];apply hk;clear hk k) |refine wkt rfl ?_ |refine wk0 ?_ |refine rg rfl rfl (fun K hK=>?_) |((first |refine ae ?_ |refine ac ?_);simp(disch:=decide) only[qs,qb,if_true,if_false,reduceIte]) |refine ah rfl (fun K hK=>?_) |refine ct rfl ?_ |((try simp(disch:=omega) only[go_sem,ξ,ζ]);(first |apply hK |(clear hK;apply hK) |(clear hK;clear hK;apply hK));clear hK;(try clear K);(try dsimp only[ag,qs,qb])))
 refine cN rfl rfl rfl rfl (by exact bQ (n:=g) (by omega)) ?_;rintro v1 h1 _ hv1;obtain⟨v1,v1_l,v1_c,rfl,hv1⟩:=hv1.sl;(repeat (first |(refine wo rfl (fun k hk=>?_);simp(disch:=omega) only[go_sem,ξ,ζ];apply hk;clear hk k) |refine wkt rfl ?_));(try refine wk0 ?_)
 refine cN rfl rfl rfl rfl (by exact aV (hv.to (h':=h1)) hv1 (by omega) (by omega)) ?_;rintro v2 h2 _ hv2;obtain⟨v2,v2_l,v2_c,rfl,hv2⟩:=hv2.sl;(repeat (first |(refine wo rfl (fun k hk=>?_);simp(disch:=omega) only[go_sem,ξ,ζ];apply hk;clear hk k) |refine wkt rfl ?_));(try refine wk0 ?_)
 (try (simp(disch:=omega) only[go_sem,ξ,ζ]));apply hK;clear hK;(try clear K);(try dsimp only[ag,qs])
 refine rg rfl rfl (fun K hK=>?_);(repeat (first |(refine wo rfl (fun k hk=>?_);simp(disch:=omega) only[go_sem,ξ,ζ];apply hk;clear hk k) |refine wkt rfl ?_));(try refine wk0 ?_)
 refine cN rfl rfl rfl rfl (by exact nY ha hlt hl) ?_;rintro v3 h3 _ hv3;obtain⟨v3,v3_l,v3_c,rfl,hv3⟩:=hv3.sl;(repeat (first |(refine wo rfl (fun k hk=>?_);simp(disch:=omega) only[go_sem,ξ,ζ];apply hk;clear hk k) |refine wkt rfl ?_));(try refine wk0 ?_)
 refine cN rfl rfl rfl rfl (by exact eI hv3 (hv2.to (h':=h3))) ?_;rintro v4 h4 s4 rfl;(repeat (first |(refine wo rfl (fun k hk=>?_);simp(disch:=omega) only[go_sem,ξ,ζ];apply hk;clear hk k) |refine wkt rfl ?_));(try refine wk0 ?_)
 by_cases hc:val 65536 xs < d*g
 ·have e:cmp3 (val 65536 xs) (d*g) < 0:=by simp[cmp3,hc]
  (try (simp(disch:=omega) only[go_sem,ξ,ζ]));apply hK;clear hK;(try clear K);(try dsimp only[ag,qs])
  refine ai ?_;simp(disch:=omega) only[go_sem,ξ,ζ]
  all_goals simp[hc]
 ·have e:¬cmp3 (val 65536 xs) (d*g) < 0:=by simp only[cmp3,if_neg hc];split<;>decide
  (try (simp(disch:=omega) only[go_sem,ξ,ζ]));apply hK;clear hK;(try clear K);(try dsimp only[ag,qs])
  refine ai ?_;simp(disch:=omega) only[go_sem,ξ,ζ]
  all_goals simp[hc]
theorem Arr.of_mid {h:PH} {b:Nat} {pre ws:List Nat} {jk:List Value} {k cap:Nat} (hb:h b=some (uw (pre ++ws) ++jk).toArray) (hlt:∀x∈ws,x < 65536) (hk:k≤ws.length) (hs:k≤2^46) (hc:k≤cap):Arr h (some ⟨b,pre.length,none⟩) cap (ws.take k):=by
 refine⟨by simp;omega,by simp;omega,fun x hx=>by have:=hlt x (List.mem_of_mem_take hx);omega,fun i x hi=>⟨_,rfl,?_⟩⟩
 have hik:i < k:=by
  have:=(List.getElem?_eq_some_iff.1 hi).1
  simp at this;omega
 rw[List.getElem?_take,if_pos hik] at hi
 have hiw:i < ws.length:=(List.getElem?_eq_some_iff.1 hi).1
 have hx:(uw (pre ++ws) ++jk)[pre.length+i]?=some (.int .u32 x):=by
  rw[List.getElem?_append_left (by simp[uw];omega),rj,List.getElem?_append_right (by simp[uw])]
  simp[uw,hi]
 simp[PH.at,gF,hb,hx]
theorem dstep {P B V o X Y g x y r q:Nat} (hs:x+B*q=r+(o+g*y)) (hi:X+P*o=V+g*Y):X+P*x+P*B*q=V+P*r+g*(Y+P*y):=by
 have e:P*(x+B*q)=P*(r+(o+g*y)):=by rw[hs]
 rw[qAm,qAm,qAm,←σ P B,qBg P g] at e
 rw[qAm g]
 omega
theorem AQ (s:Int):((s % 18446744073709551616).toNat % 65536:Nat)=(s % 65536).toNat:=by omega
theorem Gr {s:Int}:andI .i64 s 65535=s % 65536:=by
 unfold andI
 rw[BitVec.toNat_and]
 have e1:(BitVec.ofInt IntKind.i64.bits s).toNat=(s % 18446744073709551616).toNat:=by rw[BitVec.toNat_ofInt];rfl
 have e2:(BitVec.ofInt IntKind.i64.bits 65535).toNat=2^16 - 1:=by decide
 rw[e1,e2,Nat.and_two_pow_sub_one_eq_mod,show(2:Nat)^16=65536 from rfl,AQ,IntKind.wrap_i64]
 omega
theorem sub_low {u o t:Nat} (hu:u < 65536):andI .i64 ((u:Int)+ -(o:Int) - (t:Int)) 65535=((u+65536*((o+t+65535 - u) / 65536) - (o+t):Nat):Int):=by
 rw[Gr];omega
theorem sub_high {u o t:Nat} (hu:u < 65536):((u:Int)+ -(o:Int) - (t:Int)).fdiv (2^min (Int.toNat 16) 64)= -(((o+t+65535 - u) / 65536:Nat):Int):=by
 rw[show(2:Int)^min (Int.toNat 16) 64=65536 from rfl,Int.fdiv_eq_ediv_of_nonneg _ (by decide)];omega
theorem sub_low0 {u o:Nat} (hu:u < 65536):andI .i64 ((u:Int)+ -(o:Int)) 65535=((u+65536*((o+65535 - u) / 65536) - o:Nat):Int):=by
 rw[Gr];omega
theorem JY {u o:Nat} (hu:u < 65536):((u:Int)+ -(o:Int)).fdiv (2^min (Int.toNat 16) 64)= -(((o+65535 - u) / 65536:Nat):Int):=by
 rw[show(2:Int)^min (Int.toNat 16) 64=65536 from rfl,Int.fdiv_eq_ediv_of_nonneg _ (by decide)];omega
attribute [go_sem] Int.neg_zero
@[go_sem] theorem uw_getj {rs:List Nat} {jk:List Value} {k:Nat} (hk:k < rs.length):(uw rs ++jk)[k]?=some (.int .u32 (rs.getD k 0:Nat)):=by
 rw[List.getElem?_append_left (by simpa[uw] using hk),yL hk]
@[go_sem] theorem ldb_uwj {rs:List Nat} {jk:List Value} {k:Nat} (hk:k < rs.length):ldb none (uw rs ++jk) k=some (.int .u32 (rs.getD k 0:Nat)):=by
 simp only[ldb]
 rw[List.getElem?_append_left (by simpa[uw] using hk),yL hk]
@[go_sem] theorem spl_uwj {rs:List Nat} {jk:List Value} {k d:Nat} (hk:k < rs.length):spl (uw rs ++jk) k (uw [d])=uw (rs.set k d) ++jk:=by
 rw[←F9]
 simp only[spl,uw,List.map_cons,List.map_nil]
 rw[List.set_append_left _ _ (by simpa using hk)]
theorem AK {h0 h:PH} [Le h0 h] {a:Option Addr} {c cap:Nat} {ys pre ws:List Nat} {jk:List Value} (ha:Arr h0 a c ys) (hy16:∀x∈ys,x < 65536) (hyW:W 65536 (val 65536 ys)=ys) (hn:1≤ys.length) (hn':bl (val 65536 ys)≤2^39) (hlt:∀x∈ws,x < 65536) (hlen:ys.length+1≤ws.length)
  (hlen':pre.length+ws.length≤2^41) (hcap:ys.length+1≤cap) (hU:val 65536 (ws.take (ys.length+1)) < 65536*val 65536 ys):
  SpecL mach 151 [.s 0 pre.length (ys.length+1) cap,.v (.slice a ys.length c)] (uw (pre ++ws) ++jk) h
   (fun v row' _=>v=.int .u32 (val 65536 (ws.take (ys.length+1)) / val 65536 ys:Nat)∧∃ws',row'=uw (pre ++ws') ++jk∧ws'.length=ws.length∧(∀x∈ws',x < 65536)∧ws'.drop (ys.length+1)=ws.drop (ys.length+1)∧val 65536 (ws'.take (ys.length+1))=val 65536 (ws.take (ys.length+1)) % val 65536 ys):=by
 obtain⟨N,hN⟩:∃N,ys.length=N+1:=⟨ys.length - 1,by omega⟩
 obtain⟨ad,rfl,hd1⟩:=ha.rd h (i:=ys.length - 1) (by omega)
 have hb1:=aM (by decide) hy16 (ys.length - 1)
 have hw0:=aM (by decide) hlt ys.length
 have hw1:=aM (by decide) hlt (ys.length - 1)
 have hpl:(pre ++ws).length=pre.length+ws.length:=qAp
 obtain⟨U,hUe⟩:∃U,val 65536 (ws.take (ys.length+1))=U:=⟨_,rfl⟩
 obtain⟨D,hDe⟩:∃D,val 65536 ys=D:=⟨_,rfl⟩
 obtain⟨d1,hd1e⟩:∃d,ys.getD (ys.length - 1) 0=d:=⟨_,rfl⟩
 obtain⟨T,hT⟩:∃T,ws.getD ys.length 0*65536+ws.getD (ys.length - 1) 0=T:=⟨_,rfl⟩
 obtain⟨P,hP⟩:∃P,65536^N=P:=⟨_,rfl⟩
 have hP0:0 < P:=by rw[←hP];exact qAo (by decide)
 have hv:N16 h0 (.slice (some ad) ys.length c) D:=⟨some ad,c,by rw[←hDe,hyW],by rw[←hDe,hyW];exact ha⟩
 have hD0:D≠0:=by
  intro e
  rw[←hDe] at e
  rw[e,ff] at hyW
  rw[←hyW] at hn
  simp at hn
 have hys:ys.length≤2^39:=by have:=cr (val 65536 ys);rw[hyW] at this;omega
 rw[hd1e] at hd1 hb1
 have hd10:d1≠0:=by
  rw[←hd1e]
  have h1:=W_top B16 (n:=val 65536 ys) (by rw[hDe];exact hD0)
  rw[hyW] at h1
  intro e
  have h2:=Nat.div_pos h1.2.1 (qAo (by decide))
  omega
 have hlu:val 65536 (ws.take N) < P:=by
  have:=iU (B:=65536) (by decide) (ws.take N) (fun x hx=>hlt x (List.mem_of_mem_take hx))
  rwa[List.length_take,Nat.min_eq_left (by omega),hP] at this
 have eU:U=val 65536 (ws.take N)+P*T:=by
  rw[←hUe,hN,aq,aq]
  simp only[qAn,hP]
  rw[←hT,hN,show N+1 - 1=N by omega]
  simp only[qAm,σ,ρ (ws.getD (N+1) 0)]
  omega
 have eD:D=val 65536 (ys.take N)+P*d1:=by
  rw[←hDe,←hd1e,hN,show N+1 - 1=N by omega]
  conv=>lhs;rw[←qAr (i:=N+1) (l:=ys) (by omega)]
  rw[aq,hP]
 rw[hUe,hDe] at hU ⊢
 refine SpecL.enter (n:=78) Tryz.func151 rfl (by kernel_rfl) rfl (by simp) (by simp(disch:=omega) only[go_sem,ξ,ζ]) [.tmp 4] rfl (fun C rest hC=>?_)
 have hTb:T < 4294967296:=by rw[←hT];omega
 obtain⟨g0,hg0⟩:∃g,T / d1=g:=⟨_,rfl⟩
 have hg0b:g0≤T:=by rw[←hg0];exact Nat.div_le_self _ _
 have hst:U < (g0+1)*D:=by
  rw[←hg0]
  have h1:T < (T / d1+1)*d1:=by rw[ρ];exact Nat.lt_mul_div_succ T (by omega)
  have h2:P*(T+1)≤P*((T / d1+1)*d1):=ω _ h1
  have h3:P*((T / d1+1)*d1)≤(T / d1+1)*D:=by rw[eD,qBg];exact ω _ (by omega)
  rw[qAm] at h2
  omega
 repeat (first |((first |refine rg rfl rfl (fun K hK=>?_) |refine rd [.o 0,.o 1,.o 2,.o 3,.o 4,.o 5,.o 6,.o 7,.o 8,.o 9,.o 10,.o 11,.o 12,.o 13] rfl (by decide+kernel) rfl (fun K hK=>?_));(repeat (first |(refine wo rfl (fun k hk=>?_);simp(disch:=omega) only[go_sem,ξ,ζ,hd1,hT,hg0];apply hk;clear hk k) |refine wkt rfl ?_));(try refine wk0 ?_);apply hK;clear hK K;(try dsimp only[ag,qs,qb])) |((first |refine ae ?_ |refine ac ?_);simp(disch:=decide) only[qs,qb,if_true,if_false,reduceIte]) |refine ah rfl (fun K hK=>?_) |refine ct rfl ?_ |((first |refine hK _ _ ?_ |(clear hK;refine hK _ _ ?_) |(clear hK;clear hK;refine hK _ _ ?_));clear hK;(try clear K)))
 have rest1:∀(g:Nat) (S:AS),S.le ⟨[(0,.s 0 pre.length (ys.length+1) cap),(1,.v (.slice (some ad) ys.length c)),(5,.v (.int .i64 ys.length)),(7,.v (.int .u64 g))],(uw (pre ++ws) ++jk) :: rest⟩→g < 65536→U < (g+1)*D→K S h:=by
  intro g S hS hg hUg
  refine hK _ _ (Gg _ (by simp[hC]) hS ?_)
  clear hK hS
  refine pC (fun K hK=>?_)
  refine ue ?_
  refine mF (fun g:Nat=>⟨[(0,.s 0 pre.length (ys.length+1) cap),(1,.v (.slice (some ad) ys.length c)),(5,.v (.int .i64 ys.length)),(7,.v (.int .u64 g))],(uw (pre ++ws) ++jk) :: rest⟩)
   (fun g h'=>h'=h∧g < 65536∧U < (g+1)*D) (fun g=>g) g (fun _=>by simp[hC]) ?_ ⟨rfl,hg,hUg⟩ ?_
  ·simp(disch:=omega) only[go_sem,ξ,ζ]
  ·clear hUg hg g
   rintro g h1 ⟨rfl,hg,hUg⟩
   refine oJ (fun K hK=>?_)
   (first |refine rg rfl rfl (fun K hK=>?_) |refine rd [.o 0,.o 1,.o 2,.o 3,.o 4,.o 5,.o 6,.o 7,.o 8,.o 9,.o 10,.o 11,.o 12,.o 13] rfl (by decide+kernel) rfl (fun K hK=>?_));(repeat (first |(refine wo rfl (fun k hk=>?_);simp(disch:=omega) only[go_sem,ξ,ζ];apply hk;clear hk k) |refine wkt rfl ?_));(try refine wk0 ?_)
   refine wo rfl (fun k hk=>?_);simp(disch:=omega) only[go_sem,ξ,ζ]
   refine IY (R:=fun v=>v=.bool (decide (U < D*g))) 0 rfl ?_ rfl (fun b h' hs hb=>?_) ?_
   ·intro e
    have:=congrArg List.length e
    simp only[AS.box,List.getD_cons_zero,uw,List.length_map,qAp,List.length_nil] at this
    omega
   ·haveI:Step h1 h':=hs
    have hA:=Arr.of_mid (k:=ys.length+1) (cap:=cap) hb hlt hlen (by omega) hcap
    have:=Jz (h:=h') (L:=ys.length+1) (hA.to (h':=h')) (fun x hx=>hlt x (List.mem_of_mem_take hx)) (by rw[List.length_take,Nat.min_eq_left hlen]) (hv.to (h':=h')) (by rw[←hDe];exact hn') hg
    rw[hUe] at this
    exact this
   rintro v rfl
   apply hk;clear hk k
   by_cases hless:U < D*g
   ·have hg1:1≤g:=by
     rcases g with _ |g
     ·simp at hless
     ·omega
    (repeat (first |(refine wo rfl (fun k hk=>?_);simp(disch:=omega) only[go_sem,ξ,ζ];apply hk;clear hk k) |refine wkt rfl ?_));(try refine wk0 ?_)
    repeat (first |(refine wo rfl (fun k hk=>?_);simp(disch:=omega) only[go_sem,ξ,ζ];apply hk;clear hk k) |refine wkt rfl ?_ |refine wk0 ?_ |refine rg rfl rfl (fun K hK=>?_) |refine rd [.o 0,.o 1,.o 2,.o 3,.o 4,.o 5,.o 6,.o 7,.o 8,.o 9,.o 10,.o 11,.o 12,.o 13] rfl (by decide+kernel) rfl (fun K hK=>?_) |((first |refine ae ?_ |refine ac ?_);simp(disch:=decide) only[qs,qb,if_true,if_false,reduceIte]) |refine ah rfl (fun K hK=>?_) |refine ct rfl ?_ |((try simp(disch:=omega) only[go_sem,ξ,ζ]);(first |apply hK |(clear hK;apply hK) |(clear hK;clear hK;apply hK));clear hK;(try clear K);(try dsimp only[ag,qs,qb])))
    refine⟨g - 1,?_,⟨by trivial,by omega,by rw[show g - 1+1=g by omega,ρ];exact hless⟩,by omega⟩
    simp(disch:=omega) only[go_sem,ξ,ζ]
   ·have hless':g*D≤U:=by rw[ρ];omega
    have e1:U / D=g:=Nat.div_eq_of_lt_le hless' hUg
    have e2:g*D+U % D=U:=by have:=Nat.div_add_mod U D;rw[e1,ρ] at this;exact this
    (repeat (first |(refine wo rfl (fun k hk=>?_);simp(disch:=omega) only[go_sem,ξ,ζ];apply hk;clear hk k) |refine wkt rfl ?_));(try refine wk0 ?_)
    repeat (first |(refine wo rfl (fun k hk=>?_);simp(disch:=omega) only[go_sem,ξ,ζ];apply hk;clear hk k) |refine wkt rfl ?_ |refine wk0 ?_ |refine rg rfl rfl (fun K hK=>?_) |refine rd [.o 0,.o 1,.o 2,.o 3,.o 4,.o 5,.o 6,.o 7,.o 8,.o 9,.o 10,.o 11,.o 12,.o 13] rfl (by decide+kernel) rfl (fun K hK=>?_) |((first |refine ae ?_ |refine ac ?_);simp(disch:=decide) only[qs,qb,if_true,if_false,reduceIte]) |refine ah rfl (fun K hK=>?_) |refine ct rfl ?_ |((try simp(disch:=omega) only[go_sem,ξ,ζ]);(first |apply hK |(clear hK;apply hK) |(clear hK;clear hK;apply hK));clear hK;(try clear K);(try dsimp only[ag,qs,qb])))
    refine mF (fun x:Nat×List Nat×Nat=>⟨[(0,.s 0 pre.length (ys.length+1) cap),(1,.v (.slice (some ad) ys.length c)),(5,.v (.int .i64 ys.length)),(7,.v (.int .u64 g)),(8,.v (.int .i64 (-(x.2.2:Int)))),(43,.v (.int .i64 (ys.length+1:Nat))),(44,.v (.int .i64 x.1))],(uw (pre ++x.2.1) ++jk) :: rest⟩)
     (fun x h'=>h'=h1∧x.1≤ys.length+1∧x.2.1.length=ws.length∧(∀d∈x.2.1,d < 65536)∧x.2.1.drop x.1=ws.drop x.1∧x.2.2≤65536∧val 65536 (ws.take x.1)+65536^x.1*x.2.2=val 65536 (x.2.1.take x.1)+g*val 65536 (ys.take x.1)) (fun x=>ys.length+1 - x.1) (0,ws,0) (fun _=>by simp[hC]) ?_ ⟨rfl,by simp,rfl,hlt,rfl,by simp,by simp[val]⟩ ?_
    ·simp(disch:=omega) only[go_sem,ξ,ζ]
    ·rintro⟨i,ws',o⟩ h2 ⟨rfl,hi,hl',hlt',hdr,ho,hinv⟩
     dsimp only at hi hl' hlt' hdr ho hinv ⊢
     have hpl':(pre ++ws').length=pre.length+ws.length:=by rw[qAp,hl']
     by_cases hin:i < ys.length+1
     ·have hu:ws'.getD i 0=ws.getD i 0:=ju hdr (η _)
      have hub:=aM (by decide) hlt' i
      by_cases hiy:i < ys.length
      ·obtain⟨ad',h',hat⟩:=ha.rd h2 (i:=i) (by omega)
       obtain rfl:ad=ad':=by simpa using h'
       have hw:=aM (by decide) hy16 i
       have hgw:g*ys.getD i 0≤65535*65535:=qAk (by omega) (by omega)
       have f1:=sub_low (o:=o) (t:=g*ys.getD i 0) hub
       have f2:=sub_high (o:=o) (t:=g*ys.getD i 0) hub
       obtain⟨o',ho'⟩:∃q,(o+g*ys.getD i 0+65535 - ws'.getD i 0) / 65536=q:=⟨_,rfl⟩
       rw[ho'] at f1 f2
       obtain⟨d,hd⟩:∃d,ws'.getD i 0+65536*o' - (o+g*ys.getD i 0)=d:=⟨_,rfl⟩
       rw[hd] at f1
       have hde:ws'.getD i 0+65536*o'=d+(o+g*ys.getD i 0):=by omega
       have hdl:d < 65536:=by omega
       have hol:o'≤65536:=by omega
       repeat (first |(refine wo rfl (fun k hk=>?_);simp(disch:=omega) only[go_sem,ξ,ζ,hat,f1,f2];apply hk;clear hk k) |refine wkt rfl ?_ |refine wk0 ?_ |refine rg rfl rfl (fun K hK=>?_) |refine rd [.o 0,.o 1,.o 2,.o 3,.o 4,.o 5,.o 6,.o 7,.o 8,.o 9,.o 10,.o 11,.o 12,.o 13] rfl (by decide+kernel) rfl (fun K hK=>?_) |((first |refine ae ?_ |refine ac ?_);simp(disch:=decide) only[qs,qb,if_true,if_false,reduceIte]) |refine ah rfl (fun K hK=>?_) |refine ct rfl ?_ |((try simp(disch:=omega) only[go_sem,ξ,ζ]);(first |apply hK |(clear hK;apply hK) |(clear hK;clear hK;apply hK));clear hK;(try clear K);(try dsimp only[ag,qs,qb])))
       refine⟨(i+1,ws'.set i d,o'),?_,⟨by trivial,by dsimp only;omega,by simp[hl'],d9 hlt' hdl,iy hdr,hol,?_⟩,by dsimp only;omega⟩
       ·simp(disch:=omega) only[go_sem,ξ,ζ]
       ·dsimp only
        rw[bO (by omega),aq _ ws,aq _ ys,qAn,←hu]
        exact dstep hde hinv
      ·have f1:=sub_low0 (o:=o) hub
       have f2:=JY (o:=o) hub
       obtain⟨o',ho'⟩:∃q,(o+65535 - ws'.getD i 0) / 65536=q:=⟨_,rfl⟩
       rw[ho'] at f1 f2
       obtain⟨d,hd⟩:∃d,ws'.getD i 0+65536*o' - o=d:=⟨_,rfl⟩
       rw[hd] at f1
       have hde:ws'.getD i 0+65536*o'=d+o:=by omega
       have hdl:d < 65536:=by omega
       have hol:o'≤65536:=by omega
       repeat (first |(refine wo rfl (fun k hk=>?_);simp(disch:=omega) only[go_sem,ξ,ζ,f1,f2];apply hk;clear hk k) |refine wkt rfl ?_ |refine wk0 ?_ |refine rg rfl rfl (fun K hK=>?_) |refine rd [.o 0,.o 1,.o 2,.o 3,.o 4,.o 5,.o 6,.o 7,.o 8,.o 9,.o 10,.o 11,.o 12,.o 13] rfl (by decide+kernel) rfl (fun K hK=>?_) |((first |refine ae ?_ |refine ac ?_);simp(disch:=decide) only[qs,qb,if_true,if_false,reduceIte]) |refine ah rfl (fun K hK=>?_) |refine ct rfl ?_ |((try simp(disch:=omega) only[go_sem,ξ,ζ]);(first |apply hK |(clear hK;apply hK) |(clear hK;clear hK;apply hK));clear hK;(try clear K);(try dsimp only[ag,qs,qb])))
       refine⟨(i+1,ws'.set i d,o'),?_,⟨by trivial,by dsimp only;omega,by simp[hl'],d9 hlt' hdl,iy hdr,hol,?_⟩,by dsimp only;omega⟩
       ·simp(disch:=omega) only[go_sem,ξ,ζ]
       ·dsimp only
        rw[bO (by omega),aq _ ws,aq _ ys,qAn,←hu,getD_none (show ys.length≤i by omega)]
        exact dstep (by rw[Nat.mul_zero];exact hde) hinv
     ·obtain rfl:i=ys.length+1:=by omega
      rw[hUe,qAr (show ys.length≤ys.length+1 by omega),hDe] at hinv
      have hVl:val 65536 (ws'.take (ys.length+1)) < 65536^(ys.length+1):=by
       have:=iU (B:=65536) (by decide) (ws'.take (ys.length+1)) (fun x hx=>hlt' x (List.mem_of_mem_take hx))
       rwa[List.length_take,Nat.min_eq_left (by omega)] at this
      obtain⟨Z,hZ⟩:∃Z,65536^(ys.length+1)=Z:=⟨_,rfl⟩
      rw[hZ] at hinv hVl
      have ho0:o=0:=by
       rcases Nat.eq_zero_or_pos o with h' |h'
       ·exact h'
       ·exfalso
        have:=Nat.le_mul_of_pos_right Z h'
        omega
      rw[ho0,Nat.mul_zero] at hinv
      repeat (first |(refine wo rfl (fun k hk=>?_);simp(disch:=omega) only[go_sem,ξ,ζ];apply hk;clear hk k) |refine wkt rfl ?_ |refine wk0 ?_ |refine rg rfl rfl (fun K hK=>?_) |refine rd [.o 0,.o 1,.o 2,.o 3,.o 4,.o 5,.o 6,.o 7,.o 8,.o 9,.o 10,.o 11,.o 12,.o 13] rfl (by decide+kernel) rfl (fun K hK=>?_) |((first |refine ae ?_ |refine ac ?_);simp(disch:=decide) only[qs,qb,if_true,if_false,reduceIte]) |refine ah rfl (fun K hK=>?_) |refine ct rfl ?_ |((try simp(disch:=omega) only[go_sem,ξ,ζ]);(first |apply hK |(clear hK;apply hK) |(clear hK;clear hK;apply hK));clear hK;(try clear K);(try dsimp only[ag,qs,qb])))
      refine ai ?_;simp(disch:=omega) only[go_sem,ξ,ζ]
      refine⟨by rw[e1],ws',rfl,hl',hlt',hdr,by omega⟩
 refine mP rfl (fun ht=>?_) (fun ht=>?_)
 ·have:=of_decide_eq_true ht
  refine ug rfl ?_;(repeat (first |(refine wo rfl (fun k hk=>?_);simp(disch:=omega) only[go_sem,ξ,ζ];apply hk;clear hk k) |refine wkt rfl ?_));(try refine wk0 ?_);simp only[qs,qb,if_true,if_false,reduceIte]
  refine rest1 65535 _ ?_ (by decide) hU
  simp(disch:=omega) only[go_sem,ξ,ζ]
  rfl
 ·have:=of_decide_eq_false ht
  refine ac ?_;simp only[qs,qb,if_true,if_false,reduceIte]
  refine rest1 g0 _ ?_ (by omega) hst
  simp(disch:=omega) only[go_sem,ξ,ζ]
end Go.Q
