/-
  Contracts of package word, and what stands on it. Conditions: each theorem's own.
-/
import Derived.Test.YtdagofmikpgjjaaGreatDoorK98c21dPkF
import Derived.Test.YtdagofmikpgjjaaGreatDoorK56fa9ePkH
import Derived.Test.YtdagofmikpgjjaaGreatDoorK829733PkC
set_option linter.unusedVariables false
set_option linter.unusedSimpArgs false
open Nat (reduceAdd)
namespace Go.Q
open Go.Proofs
set_option maxRecDepth 100000
theorem wu64_neg {m:Nat} (h0:0 < m) (h:m≤9223372036854775808):IntKind.u64.wrap (-(m:Int))=((18446744073709551616 - m:Nat):Int):=by
  rw[IntKind.wrap_u64];omega
theorem J6 {m:Nat} (h0:0 < m) (h:m≤9223372036854775808):IntKind.u64.wrap (0 - ((18446744073709551616 - m:Nat):Int))=(m:Int):=by
  rw[IntKind.wrap_u64];omega
theorem tQ (neg:Bool) (m:Nat):sgn neg m 1=((if neg then -(m:Int) else m:Int):Rat):=by
  unfold sgn
  rw[Rat.mkRat_eq_div]
  simp[Rat.div_def,tp]
theorem cB {h:PH} {n:Int} (h1: -9223372036854775808≤n) (h2:n≤9223372036854775807):Spec mach 198 #[.int .i64 n] h (fun v h'=>Fr h' v (n:Rat)) NP:=by
  by_cases hn:n < 0
  · obtain⟨m,rfl⟩:∃m:Nat,n= -(m:Int):=⟨n.natAbs,by omega⟩
    have e1:=wu64_neg (m:=m) (by omega) (by omega)
    have e2:=J6 (m:=m) (by omega) (by omega)
    refine Spec.go [] Tryz.func198 rfl rfl (by kernel_rfl) fun C _=>?_
    try simp(maxSteps:=999999) (disch:=omega) only[go_sem,Nat.reduceBEq,reduceAdd,e1,e2]
    refine caN (by exact aw (n:=m) (by omega)) ?_;rintro _ h1 _ hv1;obtain⟨v1,v1_l,v1_c,rfl,hv1⟩:=hv1.sl
    try simp(maxSteps:=999999) (disch:=omega) only[go_sem,Nat.reduceBEq,reduceAdd]
    refine caN (by exact aw (n:=1) (by decide)) ?_;rintro _ h2 _ hv2;obtain⟨v2,v2_l,v2_c,rfl,hv2⟩:=hv2.sl
    try simp(maxSteps:=999999) (disch:=omega) only[go_sem,Nat.reduceBEq,reduceAdd]
    exact Fr.of (neg:=true) hv1.to hv2 (by omega) (by decide) (by simp) (by rw[tQ];simp)
  · obtain⟨m,rfl⟩:∃m:Nat,n=(m:Int):=⟨n.natAbs,by omega⟩
    refine Spec.go [] Tryz.func198 rfl rfl (by kernel_rfl) fun C _=>?_
    try simp(maxSteps:=999999) (disch:=omega) only[go_sem,Nat.reduceBEq,reduceAdd]
    refine caN (by exact aw (n:=m) (by omega)) ?_;rintro _ h1 _ hv1;obtain⟨v1,v1_l,v1_c,rfl,hv1⟩:=hv1.sl
    try simp(maxSteps:=999999) (disch:=omega) only[go_sem,Nat.reduceBEq,reduceAdd]
    refine caN (by exact aw (n:=1) (by decide)) ?_;rintro _ h2 _ hv2;obtain⟨v2,v2_l,v2_c,rfl,hv2⟩:=hv2.sl
    try simp(maxSteps:=999999) (disch:=omega) only[go_sem,Nat.reduceBEq,reduceAdd]
    by_cases h0:m=0
    · subst h0
      exact⟨.slice v1 v1_l v1_c,.slice v2 v2_l v2_c,by simp,by simpa using hv1.to,by simpa using hv2⟩
    · exact Fr.of (neg:=false) hv1.to hv2 h0 (by decide) (by simp) (by rw[tQ];simp)
theorem rE {h0 h:PH} [Le h0 h] {v:Value} {n:Nat} (hv:N32 h0 v n) (bn:bl n≤2^40):Spec mach 251 #[v] h (fun v h'=>N32 h' v n) NP:=by
  obtain⟨a,c,xs,rfl,ha,hxs,hm⟩:=hv.out
  have hs:xs.length≤2^40:=by have:=dj n;rw[hxs] at this;omega
  refine Spec.enter (args:=[_]) (n:=8) Tryz.func251 rfl (by kernel_rfl) rfl (by simp) [.tmp 2] rfl (fun C _=>?_)
  cases a with
  | none=>
    have:xs.length=0:=by
      rcases Nat.eq_zero_or_pos xs.length with h |h
      · exact h
      · obtain⟨ad,h1,_⟩:=ha.get h;cases h1
    repeat (first |(refine wo rfl (fun k hk=>?_);simp(disch:=omega) only[go_sem,Nat.reduceBEq,reduceAdd];apply hk;clear hk k) |refine wkt rfl ?_ |refine wk0 ?_ |refine rg rfl rfl (fun K hK=>?_) |((first |refine ae ?_ |refine ac ?_);simp(disch:=decide) only[qs,qb,if_true,if_false,reduceIte]) |refine ah rfl (fun K hK=>?_) |refine ct rfl ?_ |((try simp(disch:=omega) only[go_sem,Nat.reduceBEq,reduceAdd]);(first |apply hK |(clear hK;apply hK) |(clear hK;clear hK;apply hK));clear hK;(try clear K);(try dsimp only[ag,qs,qb])))
    refine ai ?_;simp(disch:=omega) only[go_sem,Nat.reduceBEq,reduceAdd]
    rw[←hm,List.eq_nil_of_length_eq_zero this];exact N32.zero _
  | some ad=>
    repeat (first |(refine wo rfl (fun k hk=>?_);simp(disch:=omega) only[go_sem,Nat.reduceBEq,reduceAdd];apply hk;clear hk k) |refine wkt rfl ?_ |refine wk0 ?_ |refine rg rfl rfl (fun K hK=>?_) |((first |refine ae ?_ |refine ac ?_);simp(disch:=decide) only[qs,qb,if_true,if_false,reduceIte]) |refine ah rfl (fun K hK=>?_) |refine ct rfl ?_ |((try simp(disch:=omega) only[go_sem,Nat.reduceBEq,reduceAdd]);(first |apply hK |(clear hK;apply hK) |(clear hK;clear hK;apply hK));clear hK;(try clear K);(try dsimp only[ag,qs,qb])))
    refine wo rfl (fun k hk=>?_);simp(disch:=omega) only[go_sem,Nat.reduceBEq,reduceAdd]
    refine⟨uw xs,by simp[uw],fun hne j v hv=>?_,uV xs,fun junk=>?_⟩
    · obtain⟨ad',h1,h2⟩:=ha.cells h hne
      cases h1
      exact h2 j v hv
    apply hk;clear hk k
    (repeat (first |(refine wo rfl (fun k hk=>?_);simp(disch:=omega) only[go_sem,Nat.reduceBEq,reduceAdd];apply hk;clear hk k) |refine wkt rfl ?_));(try refine wk0 ?_)
    (try (simp(disch:=omega) only[go_sem,Nat.reduceBEq,reduceAdd]));apply hK;clear hK;(try clear K);(try dsimp only[ag,qs])
    refine mp 1 ?_
    simp(disch:=omega) only[go_sem,Nat.reduceBEq,reduceAdd]
    intro b h1 hs1 hb
    refine ai ?_;simp(disch:=omega) only[go_sem,Nat.reduceBEq,reduceAdd]
    refine⟨_,_,by rw[hxs],?_⟩
    rw[hxs]
    refine .of_block hb (fun i x hi=>?_) ha.lt (by omega) (by omega)
    have hil:i < xs.length:=(List.getElem?_eq_some_iff.1 hi).1
    rw[List.getElem?_append_left (by simp[uw];exact hil)]
    simp[uw,hi]
def Cn (h:PH) (v:Value) (x:Rat):Prop:=∃sn sd,v=.agg #[.bool (decide (x.num < 0)),sn,sd]∧N32 h sn x.num.natAbs∧N32 h sd (if x.den=1 then 0 else x.den)
theorem Cn.to {h h':PH} {v:Value} {x:Rat} (r:Cn h v x) [Le h h']:Cn h' v x:=let ⟨a,b,h1,h2,h3⟩:=r;⟨a,b,h1,h2.to,h3.to⟩
theorem Cn.sa {h:PH} {v:Value} {x:Rat} (r:Cn h v x):∃b na nl nc da dl dc,v=.agg #[.bool b,.slice na nl nc,.slice da dl dc]∧Cn h (.agg #[.bool b,.slice na nl nc,.slice da dl dc]) x:=by
  obtain⟨sn,sd,rfl,h2,h3⟩:=r
  obtain⟨na,nl,nc,rfl,h2⟩:=h2.sl
  obtain⟨da,dl,dc,rfl,h3⟩:=h3.sl
  exact⟨_,_,_,_,_,_,_,rfl,_,_,rfl,h2,h3⟩
def zRat:Value:=.agg #[.bool false,.slice none 0 0,.slice none 0 0]
theorem cO {h0 h:PH} [Le h0 h] {v:Value} {x:Rat} (hx:Fr h0 v x) (hs:sz x≤2048):Spec mach 179 #[v] h (fun r h'=>∃u,r=.tuple #[u,.int .i64 0]∧Cn h' u x) NP:=by
  obtain⟨na,nl,nc,da,dl,dc,rfl,hn,hd⟩:=hx.sl
  have b1:=bG x;have b2:=bB x
  obtain⟨neg,en⟩:∃b,decide (x.num < 0)=b:=⟨_,rfl⟩
  rw[en] at hx ⊢
  refine Spec.enter (args:=[_]) (n:=24) Tryz.func179 rfl (by kernel_rfl) rfl (by simp) [.cell 2 24,.tmp 3] rfl (fun C _=>?_)
  (repeat (first |(refine rg rfl rfl (fun K hK=>?_);(repeat (first |(refine wo rfl (fun k hk=>?_);simp(disch:=omega) only[go_sem,Nat.reduceBEq,reduceAdd];apply hk;clear hk k) |refine wkt rfl ?_));(try refine wk0 ?_);apply hK;clear hK K;(try dsimp only[ag,qs,qb])) |((first |refine ae ?_ |refine ac ?_);simp(disch:=decide) only[qs,qb,if_true,if_false,reduceIte]) |refine ah rfl (fun K hK=>?_) |refine ct rfl ?_ |((first |refine hK _ _ ?_ |(clear hK;refine hK _ _ ?_) |(clear hK;clear hK;refine hK _ _ ?_));clear hK;(try clear K))));(refine rg rfl rfl (fun K hK=>?_);(repeat (first |(refine wo rfl (fun k hk=>?_);simp(disch:=omega) only[go_sem,Nat.reduceBEq,reduceAdd];apply hk;clear hk k) |refine wkt rfl ?_ |with_reducible refine wk0 ?_ |with_reducible refine ao ?_ |with_reducible refine aj ?_ wt_no |with_reducible refine ak ?_)))
  refine cN rfl rfl rfl rfl (by exact qx hx) ?_;rintro v1 h1 s1 rfl;(repeat (first |(refine wo rfl (fun k hk=>?_);simp(disch:=omega) only[go_sem,Nat.reduceBEq,reduceAdd];apply hk;clear hk k) |refine wkt rfl ?_ |with_reducible refine wk0 ?_ |with_reducible refine ao ?_ |with_reducible refine aj ?_ wt_no |with_reducible refine ak ?_))
  ((try (simp(disch:=omega) only[go_sem,Nat.reduceBEq,reduceAdd]));apply hK;clear hK;(try clear K);(try dsimp only[ag,qs]));(repeat (first |(refine rg rfl rfl (fun K hK=>?_);(repeat (first |(refine wo rfl (fun k hk=>?_);simp(disch:=omega) only[go_sem,Nat.reduceBEq,reduceAdd];apply hk;clear hk k) |refine wkt rfl ?_));(try refine wk0 ?_);apply hK;clear hK K;(try dsimp only[ag,qs,qb])) |((first |refine ae ?_ |refine ac ?_);simp(disch:=decide) only[qs,qb,if_true,if_false,reduceIte]) |refine ah rfl (fun K hK=>?_) |refine ct rfl ?_ |((first |refine hK _ _ ?_ |(clear hK;refine hK _ _ ?_) |(clear hK;clear hK;refine hK _ _ ?_));clear hK;(try clear K))))
  (first |refine AWP_t (.seg [.o 0,.o 1,.o 2,.o 3] (.alt 4 (.seg [.o 5] (.alt 6 (.alt 7 .done .no) .no)) (.alt 6 (.alt 4 (.seg [.o 5] (.alt 7 .done .no)) .no) .no))) (by decide+kernel) rfl (fun K hK=>?_) |refine mR (.seg [.o 0,.o 1,.o 2,.o 3] (.alt 4 (.seg [.o 5] (.alt 6 (.alt 7 .done .no) .no)) (.alt 6 (.alt 4 (.seg [.o 5] (.alt 7 .done .no)) .no) .no))) (by decide+kernel) rfl (fun K hK=>?_))
  have rest:∀(va:Option Addr) (vl vc:Nat) (h':PH) (S:AS),Le h0 h'→N32 h' (.slice va vl vc) x.num.natAbs→S.le ⟨[(1,.p 0 0),(2,.p 1 0),(4,.p 2 0)],[[.bool neg,.slice na nl nc,.slice da dl dc],[.bool false,.slice none 0 0,.slice none 0 0],[.bool neg,.slice va vl vc,.slice none 0 0]]⟩→K S h':=by
    intro va vl vc h' S _ hn' hS
    refine hK _ _ (fq _ hS ?_);clear hK K
    refine oJ (fun K hK=>?_)
    refine rg rfl rfl (fun K hK=>?_);(repeat (first |(refine wo rfl (fun k hk=>?_);simp(disch:=omega) only[go_sem,Nat.reduceBEq,reduceAdd];apply hk;clear hk k) |refine wkt rfl ?_ |with_reducible refine wk0 ?_ |with_reducible refine ao ?_ |with_reducible refine aj ?_ wt_no |with_reducible refine ak ?_))
    refine cN rfl rfl rfl rfl (by exact wY hd) ?_;rintro v3 h3 s3 rfl;(repeat (first |(refine wo rfl (fun k hk=>?_);simp(disch:=omega) only[go_sem,Nat.reduceBEq,reduceAdd];apply hk;clear hk k) |refine wkt rfl ?_ |with_reducible refine wk0 ?_ |with_reducible refine ao ?_ |with_reducible refine aj ?_ wt_no |with_reducible refine ak ?_))
    by_cases h1:x.den=1
    · ((try (simp(disch:=omega) only[go_sem,Nat.reduceBEq,reduceAdd]));apply hK;clear hK;(try clear K);(try dsimp only[ag,qs]));(repeat (first |(refine rg rfl rfl (fun K hK=>?_);(repeat (first |(refine wo rfl (fun k hk=>?_);simp(disch:=omega) only[go_sem,Nat.reduceBEq,reduceAdd];apply hk;clear hk k) |refine wkt rfl ?_));(try refine wk0 ?_);apply hK;clear hK K;(try dsimp only[ag,qs,qb])) |((first |refine ae ?_ |refine ac ?_);simp(disch:=decide) only[qs,qb,if_true,if_false,reduceIte]) |refine ah rfl (fun K hK=>?_) |refine ct rfl ?_ |((first |refine hK _ _ ?_ |(clear hK;refine hK _ _ ?_) |(clear hK;clear hK;refine hK _ _ ?_));clear hK;(try clear K))))
      refine ai ?_;simp(disch:=omega) only[go_sem,Nat.reduceBEq,reduceAdd]
      exact⟨_,rfl,_,_,by rw[en],hn'.to,by rw[if_pos h1];exact N32.zero _⟩
    · ((try (simp(disch:=omega) only[go_sem,Nat.reduceBEq,reduceAdd]));apply hK;clear hK;(try clear K);(try dsimp only[ag,qs]));(repeat (first |(refine rg rfl rfl (fun K hK=>?_);(repeat (first |(refine wo rfl (fun k hk=>?_);simp(disch:=omega) only[go_sem,Nat.reduceBEq,reduceAdd];apply hk;clear hk k) |refine wkt rfl ?_));(try refine wk0 ?_);apply hK;clear hK K;(try dsimp only[ag,qs,qb])) |((first |refine ae ?_ |refine ac ?_);simp(disch:=decide) only[qs,qb,if_true,if_false,reduceIte]) |refine ah rfl (fun K hK=>?_) |refine ct rfl ?_ |((first |refine hK _ _ ?_ |(clear hK;refine hK _ _ ?_) |(clear hK;clear hK;refine hK _ _ ?_));clear hK;(try clear K))));(refine rg rfl rfl (fun K hK=>?_);(repeat (first |(refine wo rfl (fun k hk=>?_);simp(disch:=omega) only[go_sem,Nat.reduceBEq,reduceAdd];apply hk;clear hk k) |refine wkt rfl ?_ |with_reducible refine wk0 ?_ |with_reducible refine ao ?_ |with_reducible refine aj ?_ wt_no |with_reducible refine ak ?_)))
      refine cN rfl rfl rfl rfl (by exact rE hd (by omega)) ?_;rintro v4 h4 _ hv4;obtain⟨v4,v4_l,v4_c,rfl,hv4⟩:=hv4.sl;(repeat (first |(refine wo rfl (fun k hk=>?_);simp(disch:=omega) only[go_sem,Nat.reduceBEq,reduceAdd];apply hk;clear hk k) |refine wkt rfl ?_ |with_reducible refine wk0 ?_ |with_reducible refine ao ?_ |with_reducible refine aj ?_ wt_no |with_reducible refine ak ?_))
      ((try (simp(disch:=omega) only[go_sem,Nat.reduceBEq,reduceAdd]));apply hK;clear hK;(try clear K);(try dsimp only[ag,qs]));(repeat (first |(refine rg rfl rfl (fun K hK=>?_);(repeat (first |(refine wo rfl (fun k hk=>?_);simp(disch:=omega) only[go_sem,Nat.reduceBEq,reduceAdd];apply hk;clear hk k) |refine wkt rfl ?_));(try refine wk0 ?_);apply hK;clear hK K;(try dsimp only[ag,qs,qb])) |((first |refine ae ?_ |refine ac ?_);simp(disch:=decide) only[qs,qb,if_true,if_false,reduceIte]) |refine ah rfl (fun K hK=>?_) |refine ct rfl ?_ |((first |refine hK _ _ ?_ |(clear hK;refine hK _ _ ?_) |(clear hK;clear hK;refine hK _ _ ?_));clear hK;(try clear K))))
      refine ai ?_;simp(disch:=omega) only[go_sem,Nat.reduceBEq,reduceAdd]
      exact⟨_,rfl,_,_,by rw[en],hn'.to,by rw[if_neg h1];exact hv4⟩
  (repeat (first |(refine wo rfl (fun k hk=>?_);simp(disch:=omega) only[go_sem,Nat.reduceBEq,reduceAdd];apply hk;clear hk k) |refine wkt rfl ?_ |with_reducible refine wk0 ?_ |with_reducible refine ao ?_ |with_reducible refine aj ?_ wt_no |with_reducible refine ak ?_))
  refine aj ?_ (aj ?_ wt_no)
  · refine cN rfl rfl rfl rfl (by exact rE hn (by omega)) ?_;rintro v2 h2 _ hv2;obtain⟨v2,v2_l,v2_c,rfl,hv2⟩:=hv2.sl;(repeat (first |(refine wo rfl (fun k hk=>?_);simp(disch:=omega) only[go_sem,Nat.reduceBEq,reduceAdd];apply hk;clear hk k) |refine wkt rfl ?_ |with_reducible refine wk0 ?_ |with_reducible refine ao ?_ |with_reducible refine aj ?_ wt_no |with_reducible refine ak ?_))
    refine rest _ _ _ _ _ inferInstance hv2 ?_
    simp(disch:=omega) only[go_sem,Nat.reduceBEq,reduceAdd]
  · (repeat (first |(refine wo rfl (fun k hk=>?_);simp(disch:=omega) only[go_sem,Nat.reduceBEq,reduceAdd];apply hk;clear hk k) |refine wkt rfl ?_ |with_reducible refine wk0 ?_ |with_reducible refine ao ?_ |with_reducible refine aj ?_ wt_no |with_reducible refine ak ?_))
    refine cN rfl rfl rfl rfl (by exact rE hn (by omega)) ?_;rintro v2 h2 _ hv2;obtain⟨v2,v2_l,v2_c,rfl,hv2⟩:=hv2.sl;(repeat (first |(refine wo rfl (fun k hk=>?_);simp(disch:=omega) only[go_sem,Nat.reduceBEq,reduceAdd];apply hk;clear hk k) |refine wkt rfl ?_ |with_reducible refine wk0 ?_ |with_reducible refine ao ?_ |with_reducible refine aj ?_ wt_no |with_reducible refine ak ?_))
    refine rest _ _ _ _ _ inferInstance hv2 ?_
    simp(disch:=omega) only[go_sem,Nat.reduceBEq,reduceAdd]
theorem ms {h0 h:PH} [Le h0 h] {v:Value} {x:Rat} (hx:Fr h0 v x) (hs:¬sz x≤2048):Spec mach 179 #[v] h (fun r _=>r=.tuple #[zRat,.int .i64 1]) NP:=by
  obtain⟨na,nl,nc,da,dl,dc,rfl,hn,hd⟩:=hx.sl
  obtain⟨neg,en⟩:∃b,decide (x.num < 0)=b:=⟨_,rfl⟩
  rw[en] at hx ⊢
  refine Spec.go [(3,.t (.s [0,1,2,3] (.a 4 (.s [5] (.a 6 (.a 7 .d .n) .n)) (.a 6 (.a 4 (.s [5] (.a 7 .d .n)) .n) .n))))] Tryz.func179 rfl rfl (by kernel_rfl) fun C _=>?_
  try simp(maxSteps:=999999) (disch:=omega) only[go_sem,Nat.reduceBEq,reduceAdd]
  refine caN (by exact qx hx) ?_;rintro v1 h1 s1 rfl
  try simp(maxSteps:=999999) (disch:=omega) only[go_sem,Nat.reduceBEq,reduceAdd]
  rfl
def Rw (h:PH) (v:Value) (neg:Bool) (n d:Nat):Prop:=∃a c xs a' c' ys,v=.agg #[.bool neg,.slice a xs.length c,.slice a' ys.length c']∧Arr h a c xs∧Arr h a' c' ys∧val 4294967296 xs=n∧val 4294967296 ys=d∧xs.length≤2^30∧ys.length≤2^30
theorem Rw.to {h h':PH} {v:Value} {neg:Bool} {n d:Nat} (r:Rw h v neg n d) [Le h h']:Rw h' v neg n d:=let ⟨a,c,xs,a',c',ys,h1,h2,h3,h4,h5⟩:=r;⟨a,c,xs,a',c',ys,h1,h2.to,h3.to,h4,h5⟩
theorem Rw.sa {h:PH} {v:Value} {neg:Bool} {n d:Nat} (r:Rw h v neg n d):∃b na nl nc da dl dc,v=.agg #[.bool b,.slice na nl nc,.slice da dl dc]∧Rw h (.agg #[.bool b,.slice na nl nc,.slice da dl dc]) neg n d:=by
  have r0:=r
  obtain⟨a,c,xs,a',c',ys,rfl,_⟩:=r
  exact⟨_,_,_,_,_,_,_,rfl,r0⟩
theorem Cn.rw {h:PH} {v:Value} {x:Rat} (r:Cn h v x) (bx:sz x≤2^30):Rw h v (decide (x.num < 0)) x.num.natAbs (if x.den=1 then 0 else x.den):=by
  obtain⟨sn,sd,rfl,h2,h3⟩:=r
  have b1:=bG x;have b2:=bB x
  have b3:bl (if x.den=1 then 0 else x.den)≤bl x.den:=aR (by split<;>omega)
  obtain⟨a,c,xs,rfl,ha,hx,hm⟩:=h2.out
  obtain⟨a',c',ys,rfl,ha',hy,hm'⟩:=h3.out
  have l1:=dj x.num.natAbs
  have l2:=dj (if x.den=1 then 0 else x.den)
  rw[hx] at l1
  rw[hy] at l2
  exact⟨_,_,_,_,_,_,rfl,ha,ha',hm,hm',by omega,by omega⟩
def dz (d:Nat):Nat:=if d=0 then 1 else d
theorem dz_ne (d:Nat):dz d≠0:=by unfold dz;split<;>omega
def qof (neg:Bool) (n d:Nat):Rat:=sgn neg n (dz d)
theorem jA (x:Rat):qof (decide (x.num < 0)) x.num.natAbs (if x.den=1 then 0 else x.den)=x:=by
  have:dz (if x.den=1 then 0 else x.den)=x.den:=by
    have:=x.den_nz
    by_cases h:x.den=1
    · simp[dz,h]
    · simp[dz,h,this]
  unfold qof
  rw[this,DW]
def lg (neg:Bool) (n d:Nat):Prop:=8192 < bl n∨8192 < bl d∨2048 < sz (qof neg n d)
instance (neg:Bool) (n d:Nat):Decidable (lg neg n d):=by unfold lg;infer_instance
theorem lg_cn {x:Rat}:lg (decide (x.num < 0)) x.num.natAbs (if x.den=1 then 0 else x.den)↔2048 < sz x:=by
  unfold lg
  rw[jA]
  have b1:=bG x;have b2:=bB x
  have b3:bl (if x.den=1 then 0 else x.den)≤bl x.den:=aR (by split<;>omega)
  omega
theorem N32.len {h:PH} {a:Option Addr} {l c n:Nat} (r:N32 h (.slice a l c) n):l≤256↔bl n≤8192:=by
  obtain⟨a',c',h1,_⟩:=r
  cases h1
  exact xt (k:=256)
theorem Read_any {h0 h:PH} [Le h0 h] {v:Value} {neg:Bool} {n d:Nat} (hv:Rw h0 v neg n d):
    Spec mach 176 #[v] h (fun r h'=>∃b a l c a' l' c' t,r=.tuple #[.agg #[.bool b,.slice a l c,.slice a' l' c'],.bool t]∧(¬lg neg n d∧t=true∧Fr h' (.agg #[.bool b,.slice a l c,.slice a' l' c']) (qof neg n d)∨lg neg n d∧t=false)) NP:=by
  obtain⟨a,c,xs,a',c',ys,rfl,ha,ha',rfl,rfl,hsx,hsy⟩:=hv
  generalize hn:val 4294967296 xs=n at*
  generalize hd:val 4294967296 ys=d at*
  have kx:=fun {h} [Le h0 h]=>Of_N (h0:=h0) (h:=h) ha
  have ky:=fun {h} [Le h0 h]=>Of_N (h0:=h0) (h:=h) ha'
  rw[hn] at kx
  rw[hd] at ky
  clear hn hd
  have bz:bl d≤8192→bl (dz d)≤8193:=by
    unfold dz;split
    · intro;decide
    · omega
  have d0:=dz_ne d
  have e1:d=0→dz d=1:=fun k=>by unfold dz;rw[if_pos k]
  have e2:d≠0→dz d=d:=fun k=>by unfold dz;rw[if_neg k]
  have hlg:lg neg n d↔8192 < bl n∨8192 < bl d∨2048 < sz (qof neg n d):=Iff.rfl
  unfold qof at*
  generalize lg neg n d=L at*
  generalize dz d=D at*
  refine Spec.go [(1,.o [0,1,3,4,2,5,6,7])] Tryz.func176 rfl rfl (by kernel_rfl) fun C _=>?_
  try simp(maxSteps:=999999) (disch:=omega) only[go_sem,Nat.reduceBEq,reduceAdd]
  refine caN (by exact kx) ?_;rintro _ h1 _ hv1;obtain⟨_,v1_l,_,rfl,hv1⟩:=hv1.sl
  try simp(maxSteps:=999999) (disch:=omega) only[go_sem,Nat.reduceBEq,reduceAdd]
  refine caN (by exact ky) ?_;rintro _ h2 _ hv2;obtain⟨_,v2_l,_,rfl,hv2⟩:=hv2.sl
  try simp(maxSteps:=999999) (disch:=omega) only[go_sem,Nat.reduceBEq,reduceAdd]
  have l1:=hv1.len
  have l2:=hv2.len
  by_cases c1:v1_l≤256
  rotate_left
  · try simp(maxSteps:=999999) (disch:=omega) only[go_sem,Nat.reduceBEq,reduceAdd]
    exact⟨_,_,_,_,_,_,_,_,rfl,.inr ⟨hlg.2 (by omega),rfl⟩⟩
  by_cases c2:v2_l≤256
  rotate_left
  · try simp(maxSteps:=999999) (disch:=omega) only[go_sem,Nat.reduceBEq,reduceAdd]
    exact⟨_,_,_,_,_,_,_,_,rfl,.inr ⟨hlg.2 (by omega),rfl⟩⟩
  try simp(maxSteps:=999999) (disch:=omega) only[go_sem,Nat.reduceBEq,reduceAdd]
  refine caN (by exact bU hv2) ?_;rintro v3 h3 s3 rfl
  try simp(maxSteps:=999999) (disch:=omega) only[go_sem,Nat.reduceBEq,reduceAdd]
  have b1:=bz (by omega)
  by_cases k0:d=0
  · have k1:=decide_eq_true k0
    rw[e1 k0] at*
    try simp(maxSteps:=999999) (disch:=omega) only[go_sem,Nat.reduceBEq,reduceAdd,k1]
    refine caN (by exact aw (n:=1) (by decide)) ?_;rintro _ h4 _ hv4;obtain⟨_,_,_,rfl,hv4⟩:=hv4.sl
    try simp(maxSteps:=999999) (disch:=omega) only[go_sem,Nat.reduceBEq,reduceAdd]
    refine caN (by exact bW (neg:=neg) (hv1.to (h':=h4)) hv4 (by decide) (by omega) (by decide)) ?_;rintro _ h5 _ hv5;obtain⟨_,_,_,_,_,_,_,rfl,hv5⟩:=hv5.sa
    try simp(maxSteps:=999999) (disch:=omega) only[go_sem,Nat.reduceBEq,reduceAdd]
    refine caN (by exact qx hv5) ?_;rintro v6 h6 s6 rfl
    try simp(maxSteps:=999999) (disch:=omega) only[go_sem,Nat.reduceBEq,reduceAdd]
    by_cases hs:sz (sgn neg n 1)≤2048
    · exact⟨_,_,_,_,_,_,_,_,rfl,.inl ⟨fun k=>by have:=hlg.1 k;omega,decide_eq_true hs,hv5.to⟩⟩
    · exact⟨_,_,_,_,_,_,_,_,rfl,.inr ⟨hlg.2 (by omega),decide_eq_false hs⟩⟩
  · have k1:=decide_eq_false k0
    rw[e2 k0] at*
    try simp(maxSteps:=999999) (disch:=omega) only[go_sem,Nat.reduceBEq,reduceAdd,k1]
    refine caN (by exact bW (neg:=neg) (hv1.to (h':=h3)) (hv2.to (h':=h3)) k0 (by omega) (by omega)) ?_;rintro _ h5 _ hv5;obtain⟨_,_,_,_,_,_,_,rfl,hv5⟩:=hv5.sa
    try simp(maxSteps:=999999) (disch:=omega) only[go_sem,Nat.reduceBEq,reduceAdd]
    refine caN (by exact qx hv5) ?_;rintro v6 h6 s6 rfl
    try simp(maxSteps:=999999) (disch:=omega) only[go_sem,Nat.reduceBEq,reduceAdd]
    by_cases hs:sz (sgn neg n d)≤2048
    · exact⟨_,_,_,_,_,_,_,_,rfl,.inl ⟨fun k=>by have:=hlg.1 k;omega,decide_eq_true hs,hv5.to⟩⟩
    · exact⟨_,_,_,_,_,_,_,_,rfl,.inr ⟨hlg.2 (by omega),decide_eq_false hs⟩⟩
theorem sN {h0 h:PH} [Le h0 h] {v:Value} {neg:Bool} {n d:Nat} (hv:Rw h0 v neg n d) (hl:¬lg neg n d):
    Spec mach 176 #[v] h (fun r h'=>∃f,r=.tuple #[f,.bool true]∧Fr h' f (qof neg n d)) NP:=
  (Read_any hv).mono (fun _ _ _ r=>by obtain⟨_,_,_,_,_,_,_,_,rfl,⟨_,rfl,k⟩ |⟨k,_⟩⟩:=r;exact⟨_,rfl,k⟩;exact absurd k hl) (fun _ _ _ r=>r)
theorem Gm {h0 h:PH} [Le h0 h] {v:Value} {neg:Bool} {n d:Nat} (hv:Rw h0 v neg n d) (hl:lg neg n d):
    Spec mach 176 #[v] h (fun r _=>∃b a l c a' l' c',r=.tuple #[.agg #[.bool b,.slice a l c,.slice a' l' c'],.bool false]) NP:=
  (Read_any hv).mono (fun _ _ _ r=>by obtain⟨_,_,_,_,_,_,_,_,rfl,⟨k,_⟩ |⟨_,rfl⟩⟩:=r;exact absurd hl k;exact⟨_,_,_,_,_,_,_,rfl⟩) (fun _ _ _ r=>r)
theorem B16:2≤65536:=by decide
def N16 (h:PH) (v:Value) (n:Nat):Prop:=∃a c,v=.slice a (W 65536 n).length c∧Arr h a c (W 65536 n)
theorem N16.to {h h':PH} {v:Value} {n:Nat} (r:N16 h v n) [Le h h']:N16 h' v n:=let ⟨a,c,h1,h2⟩:=r;⟨a,c,h1,h2.to⟩
theorem N16.zero (h:PH):N16 h (.slice none 0 0) 0:=⟨none,0,by rw[ff];rfl,by rw[ff];exact Arr.nil h⟩
theorem N16.out {h:PH} {v:Value} {n:Nat} (r:N16 h v n):∃a c xs,v=.slice a xs.length c∧Arr h a c xs∧W 65536 n=xs∧val 65536 xs=n∧(∀x∈xs,x < 65536):=let ⟨a,c,h1,h2⟩:=r
  ⟨a,c,_,h1,h2,rfl,val_W B16 n,W_lt B16 n⟩
theorem N16.sl {h:PH} {v:Value} {n:Nat} (r:N16 h v n):∃a l c,v=.slice a l c∧N16 h (.slice a l c) n:=by
  obtain⟨a,c,h1,h2⟩:=r;exact⟨a,_,c,h1,a,c,rfl,h2⟩
theorem cr (n:Nat):(W 65536 n).length≤bl n:=
  cV (by decide) (Nat.lt_of_lt_of_le (bl_le.1 (Nat.le_refl _)) (Nat.pow_le_pow_left (by decide) _))
theorem arrW16 {h:PH} {a:Option Addr} {c:Nat} {xs:List Nat} (r:Arr h a c xs) (hlt:∀x∈xs,x < 65536):Arr h a c (W 65536 (val 65536 xs)):=by
  obtain⟨k,_,hk⟩:=xx (B:=65536) (by decide) xs hlt
  rw[hk];exact r.take k
theorem Aa {h0 h:PH} [Le h0 h] {a:Option Addr} {c:Nat} {xs:List Nat} (ha:Arr h0 a c xs) (hlt:∀x∈xs,x < 65536):
    Spec mach 149 #[.slice a xs.length c] h (fun v _=>v=.slice a (W 65536 (val 65536 xs)).length c) NP:=by
  have hs:=ha.small
  have hc:=ha.cap
  refine Spec.enter (args:=[_]) (n:=21) Tryz.func149 rfl (by kernel_rfl) rfl (by simp) [.tmp 2] rfl (fun C _=>?_)
  repeat (first |(refine wo rfl (fun k hk=>?_);simp(disch:=omega) only[go_sem,Nat.reduceBEq,reduceAdd];apply hk;clear hk k) |refine wkt rfl ?_ |refine wk0 ?_ |refine rg rfl rfl (fun K hK=>?_) |((first |refine ae ?_ |refine ac ?_);simp(disch:=decide) only[qs,qb,if_true,if_false,reduceIte]) |refine ah rfl (fun K hK=>?_) |refine ct rfl ?_ |((try simp(disch:=omega) only[go_sem,Nat.reduceBEq,reduceAdd]);(first |apply hK |(clear hK;apply hK) |(clear hK;clear hK;apply hK));clear hK;(try clear K);(try dsimp only[ag,qs,qb])))
  refine cg (fun k:Nat=>⟨[(0,.v (.slice a xs.length c)),(3,.v (.int .i64 k))],[]⟩) (fun k h'=>Le h0 h'∧k≤xs.length∧val 65536 (xs.take k)=val 65536 xs) id xs.length ?_ ⟨inferInstance,Nat.le_refl _,by simp⟩ ?_
  · simp(disch:=omega) only[go_sem,Nat.reduceBEq,reduceAdd]
  · rintro k h1 ⟨hle,hk,hv⟩
    by_cases hk0:k=0
    · subst hk0
      repeat (first |(refine wo rfl (fun k hk=>?_);simp(disch:=omega) only[go_sem,Nat.reduceBEq,reduceAdd];apply hk;clear hk k) |refine wkt rfl ?_ |refine wk0 ?_ |refine rg rfl rfl (fun K hK=>?_) |((first |refine ae ?_ |refine ac ?_);simp(disch:=decide) only[qs,qb,if_true,if_false,reduceIte]) |refine ah rfl (fun K hK=>?_) |refine ct rfl ?_ |((try simp(disch:=omega) only[go_sem,Nat.reduceBEq,reduceAdd]);(first |apply hK |(clear hK;apply hK) |(clear hK;clear hK;apply hK));clear hK;(try clear K);(try dsimp only[ag,qs,qb])))
      refine ai ?_;simp(disch:=omega) only[go_sem,Nat.reduceBEq,reduceAdd]
      rw[uq (by decide) 0 xs (by omega) hlt hv (.inl rfl)]
      simp
    · obtain⟨ad,rfl,hat⟩:=ha.get (i:=k - 1) (by omega)
      have hat1:=hle.sub.at hat
      by_cases hz:xs.getD (k - 1) 0=0
      · repeat (first |(refine rg rfl rfl (fun K hK=>?_);(repeat (first |(refine wo rfl (fun k hk=>?_);simp(disch:=omega) only[go_sem,Nat.reduceBEq,reduceAdd,hat1];apply hk;clear hk k) |refine wkt rfl ?_));(try refine wk0 ?_);apply hK;clear hK K;(try dsimp only[ag,qs,qb])) |((first |refine ae ?_ |refine ac ?_);simp(disch:=decide) only[qs,qb,if_true,if_false,reduceIte]) |refine ah rfl (fun K hK=>?_) |refine ct rfl ?_ |((first |refine hK _ _ ?_ |(clear hK;refine hK _ _ ?_) |(clear hK;clear hK;refine hK _ _ ?_));clear hK;(try clear K)))
        exact⟨k - 1,⟨⟨rfl,rfl,trivial⟩,trivial,rfl⟩,⟨hle,by omega,by rw[nZ (by omega) hz,show k - 1+1=k by omega];exact hv⟩,by simp only[id_eq];omega⟩
      · repeat (first |(refine wo rfl (fun k hk=>?_);simp(disch:=omega) only[go_sem,Nat.reduceBEq,reduceAdd,hat1];apply hk;clear hk k) |refine wkt rfl ?_ |refine wk0 ?_ |refine rg rfl rfl (fun K hK=>?_) |((first |refine ae ?_ |refine ac ?_);simp(disch:=decide) only[qs,qb,if_true,if_false,reduceIte]) |refine ah rfl (fun K hK=>?_) |refine ct rfl ?_ |((try simp(disch:=omega) only[go_sem,Nat.reduceBEq,reduceAdd]);(first |apply hK |(clear hK;apply hK) |(clear hK;clear hK;apply hK));clear hK;(try clear K);(try dsimp only[ag,qs,qb])))
        refine ai ?_;simp(disch:=omega) only[go_sem,Nat.reduceBEq,reduceAdd]
        rw[uq (by decide) k xs (by omega) hlt hv (.inr hz)]
        simp;omega
theorem nY {h0 h:PH} [Le h0 h] {a:Option Addr} {c L:Nat} {xs:List Nat} (ha:Arr h0 a c xs) (hlt:∀x∈xs,x < 65536) (hl:xs.length=L):
    Spec mach 149 #[.slice a L c] h (fun v h'=>N16 h' v (val 65536 xs)) NP:=by
  subst hl
  exact(Aa ha hlt).mono (fun v h' hs hv=>⟨a,c,hv,(arrW16 ha hlt).to (l:=⟨(Le.sub (a:=h0) (b:=h)).trans hs⟩)⟩) (fun _ _ _ h=>h)
theorem eI {h0 h:PH} [Le h0 h] {v w:Value} {m n:Nat} (hv:N16 h0 v m) (hw:N16 h0 w n):Spec mach 231 #[v,w] h (fun v _=>v=.int .i64 (cmp3 m n)) NP:=by
  obtain⟨a,c,xs,rfl,ha,hxs,hm,hx16⟩:=hv.out
  obtain⟨a',c',ys,rfl,ha',hys,hn,hy16⟩:=hw.out
  have hs:=ha.small
  have hc:=ha.cap
  have hs':=ha'.small
  have hc':=ha'.cap
  refine Spec.enter (args:=[_,_]) (n:=41) Tryz.func231 rfl (by kernel_rfl) rfl (by simp) [.tmp 4] rfl (fun C _=>?_)
  by_cases hl:xs.length=ys.length
  · repeat (first |(refine wo rfl (fun k hk=>?_);simp(disch:=omega) only[go_sem,Nat.reduceBEq,reduceAdd];apply hk;clear hk k) |refine wkt rfl ?_ |refine wk0 ?_ |refine rg rfl rfl (fun K hK=>?_) |refine rd [.o 0,.o 1,.o 2,.o 3,.o 4,.o 5,.o 6,.o 7,.o 8] rfl (by decide+kernel) rfl (fun K hK=>?_) |((first |refine ae ?_ |refine ac ?_);simp(disch:=decide) only[qs,qb,if_true,if_false,reduceIte]) |refine ah rfl (fun K hK=>?_) |refine ct rfl ?_ |((try simp(disch:=omega) only[go_sem,Nat.reduceBEq,reduceAdd]);(first |apply hK |(clear hK;apply hK) |(clear hK;clear hK;apply hK));clear hK;(try clear K);(try dsimp only[ag,qs,qb])))
    refine cg (fun k:Nat=>⟨[(0,.v (.slice a xs.length c)),(1,.v (.slice a' ys.length c')),(5,.v (.int .i64 ((k:Int) - 1)))],[]⟩) (fun k h'=>Le h0 h'∧k≤xs.length∧xs.drop k=ys.drop k) id xs.length ?_ ⟨inferInstance,Nat.le_refl _,by simp[hl]⟩ ?_
    · simp(disch:=omega) only[go_sem,Nat.reduceBEq,reduceAdd]
    · rintro k h1 ⟨hle,hk,hd⟩
      by_cases hk0:k=0
      · subst hk0
        repeat (first |(refine wo rfl (fun k hk=>?_);simp(disch:=omega) only[go_sem,Nat.reduceBEq,reduceAdd];apply hk;clear hk k) |refine wkt rfl ?_ |refine wk0 ?_ |refine rg rfl rfl (fun K hK=>?_) |refine rd [.o 0,.o 1,.o 2,.o 3,.o 4,.o 5,.o 6,.o 7,.o 8] rfl (by decide+kernel) rfl (fun K hK=>?_) |((first |refine ae ?_ |refine ac ?_);simp(disch:=decide) only[qs,qb,if_true,if_false,reduceIte]) |refine ah rfl (fun K hK=>?_) |refine ct rfl ?_ |((try simp(disch:=omega) only[go_sem,Nat.reduceBEq,reduceAdd]);(first |apply hK |(clear hK;apply hK) |(clear hK;clear hK;apply hK));clear hK;(try clear K);(try dsimp only[ag,qs,qb])))
        refine ai ?_;simp(disch:=omega) only[go_sem,Nat.reduceBEq,reduceAdd]
        have:m=n:=by rw[←hm,←hn,show xs=ys by simpa using hd]
        simp[cmp3,this]
      · obtain⟨k,rfl⟩:∃j,k=j+1:=⟨k - 1,by omega⟩
        obtain⟨ad,rfl,hat⟩:=ha.rd h1 (i:=k) (by omega)
        obtain⟨ad',rfl,hat'⟩:=ha'.rd h1 (i:=k) (by omega)
        by_cases hx:xs.getD k 0 < ys.getD k 0
        · repeat (first |(refine wo rfl (fun k hk=>?_);simp(disch:=omega) only[go_sem,Nat.reduceBEq,reduceAdd,hat,hat'];apply hk;clear hk k) |refine wkt rfl ?_ |refine wk0 ?_ |refine rg rfl rfl (fun K hK=>?_) |refine rd [.o 0,.o 1,.o 2,.o 3,.o 4,.o 5,.o 6,.o 7,.o 8] rfl (by decide+kernel) rfl (fun K hK=>?_) |((first |refine ae ?_ |refine ac ?_);simp(disch:=decide) only[qs,qb,if_true,if_false,reduceIte]) |refine ah rfl (fun K hK=>?_) |refine ct rfl ?_ |((try simp(disch:=omega) only[go_sem,Nat.reduceBEq,reduceAdd]);(first |apply hK |(clear hK;apply hK) |(clear hK;clear hK;apply hK));clear hK;(try clear K);(try dsimp only[ag,qs,qb])))
          refine ai ?_;simp(disch:=omega) only[go_sem,Nat.reduceBEq,reduceAdd]
          have:m < n:=by rw[←hm,←hn];exact rk B16 hx16 hl (by omega) hd hx
          simp[cmp3,this]
        · by_cases hy:ys.getD k 0 < xs.getD k 0
          · repeat (first |(refine wo rfl (fun k hk=>?_);simp(disch:=omega) only[go_sem,Nat.reduceBEq,reduceAdd,hat,hat'];apply hk;clear hk k) |refine wkt rfl ?_ |refine wk0 ?_ |refine rg rfl rfl (fun K hK=>?_) |refine rd [.o 0,.o 1,.o 2,.o 3,.o 4,.o 5,.o 6,.o 7,.o 8] rfl (by decide+kernel) rfl (fun K hK=>?_) |((first |refine ae ?_ |refine ac ?_);simp(disch:=decide) only[qs,qb,if_true,if_false,reduceIte]) |refine ah rfl (fun K hK=>?_) |refine ct rfl ?_ |((try simp(disch:=omega) only[go_sem,Nat.reduceBEq,reduceAdd]);(first |apply hK |(clear hK;apply hK) |(clear hK;clear hK;apply hK));clear hK;(try clear K);(try dsimp only[ag,qs,qb])))
            refine ai ?_;simp(disch:=omega) only[go_sem,Nat.reduceBEq,reduceAdd]
            have:n < m:=by rw[←hm,←hn];exact rk B16 hy16 hl.symm (by omega) hd.symm hy
            simp[cmp3,this,Nat.not_lt.2 (Nat.le_of_lt this)]
          · repeat (first |(refine wo rfl (fun k hk=>?_);simp(disch:=omega) only[go_sem,Nat.reduceBEq,reduceAdd,hat,hat'];apply hk;clear hk k) |refine wkt rfl ?_ |refine wk0 ?_ |refine rg rfl rfl (fun K hK=>?_) |refine rd [.o 0,.o 1,.o 2,.o 3,.o 4,.o 5,.o 6,.o 7,.o 8] rfl (by decide+kernel) rfl (fun K hK=>?_) |((first |refine ae ?_ |refine ac ?_);simp(disch:=decide) only[qs,qb,if_true,if_false,reduceIte]) |refine ah rfl (fun K hK=>?_) |refine ct rfl ?_ |((try simp(disch:=omega) only[go_sem,Nat.reduceBEq,reduceAdd]);(first |apply hK |(clear hK;apply hK) |(clear hK;clear hK;apply hK));clear hK;(try clear K);(try dsimp only[ag,qs,qb])))
            refine⟨k,?_,⟨hle,by omega,?_⟩,by simp⟩
            · simp(disch:=omega) only[go_sem,Nat.reduceBEq,reduceAdd]
            · rw[List.drop_eq_getElem_cons (by omega),List.drop_eq_getElem_cons (i:=k) (by omega:k < ys.length),hd]
              congr 1
              have h1:k < xs.length:=by omega
              have h2:k < ys.length:=by omega
              simp only[List.getD_eq_getElem?_getD,List.getElem?_eq_getElem h1,List.getElem?_eq_getElem h2,Option.getD_some] at hx hy
              omega
  · by_cases hl':xs.length < ys.length
    · repeat (first |(refine wo rfl (fun k hk=>?_);simp(disch:=omega) only[go_sem,Nat.reduceBEq,reduceAdd];apply hk;clear hk k) |refine wkt rfl ?_ |refine wk0 ?_ |refine rg rfl rfl (fun K hK=>?_) |refine rd [.o 0,.o 1,.o 2,.o 3,.o 4,.o 5,.o 6,.o 7,.o 8] rfl (by decide+kernel) rfl (fun K hK=>?_) |((first |refine ae ?_ |refine ac ?_);simp(disch:=decide) only[qs,qb,if_true,if_false,reduceIte]) |refine ah rfl (fun K hK=>?_) |refine ct rfl ?_ |((try simp(disch:=omega) only[go_sem,Nat.reduceBEq,reduceAdd]);(first |apply hK |(clear hK;apply hK) |(clear hK;clear hK;apply hK));clear hK;(try clear K);(try dsimp only[ag,qs,qb])))
      refine ai ?_;simp(disch:=omega) only[go_sem,Nat.reduceBEq,reduceAdd]
      have:m < n:=lm B16 (by rw[hxs,hys];exact hl')
      simp[cmp3,this]
    · repeat (first |(refine wo rfl (fun k hk=>?_);simp(disch:=omega) only[go_sem,Nat.reduceBEq,reduceAdd];apply hk;clear hk k) |refine wkt rfl ?_ |refine wk0 ?_ |refine rg rfl rfl (fun K hK=>?_) |refine rd [.o 0,.o 1,.o 2,.o 3,.o 4,.o 5,.o 6,.o 7,.o 8] rfl (by decide+kernel) rfl (fun K hK=>?_) |((first |refine ae ?_ |refine ac ?_);simp(disch:=decide) only[qs,qb,if_true,if_false,reduceIte]) |refine ah rfl (fun K hK=>?_) |refine ct rfl ?_ |((try simp(disch:=omega) only[go_sem,Nat.reduceBEq,reduceAdd]);(first |apply hK |(clear hK;apply hK) |(clear hK;clear hK;apply hK));clear hK;(try clear K);(try dsimp only[ag,qs,qb])))
      refine ai ?_;simp(disch:=omega) only[go_sem,Nat.reduceBEq,reduceAdd]
      have:n < m:=lm B16 (by rw[hxs,hys];omega)
      simp[cmp3,this,Nat.not_lt.2 (Nat.le_of_lt this)]
theorem N16.of_pub {h:PH} {b:Nat} {ds:List Nat} {junk:List Value} {n L c:Nat} (hb:uw ds ++junk≠[]→h b=some (uw ds ++junk).toArray) (hW:W 65536 n=ds) (hs:ds.length≤2^46) (hL:ds.length=L) (hc:ds.length≤c):N16 h (.slice (some ⟨b,0,none⟩) L c) n:=by
  refine⟨_,c,by rw[hW,hL],?_⟩
  rw[hW]
  have hlt:∀x∈ds,x < 65536:=by rw[←hW];exact W_lt B16 n
  refine .of_block hb (fun i x hi=>?_) (fun x hx=>by have:=hlt x hx;omega) hs hc
  have hil:i < ds.length:=(List.getElem?_eq_some_iff.1 hi).1
  rw[List.getElem?_append_left (by simp[uw];exact hil)]
  simp[uw,hi]
@[go_sem] theorem uw_take_app (ds:List Nat) (jk:List Value) {k:Nat} (hk:k=ds.length):(uw ds ++jk).take k=uw ds:=by
  subst hk
  rw[List.take_left' (by simp[uw])]
@[go_sem] theorem uw_one1 (d:Nat): [Value.int .u32 (d:Nat)]=uw [d]:=rfl
@[go_sem] theorem spl1 (d:Nat):spl (uw (List.replicate 1 0)) 0 (uw [d])=uw [d]:=rfl
@[go_sem] theorem take1 (d:Nat):(uw [d]).take 1=uw [d]:=rfl
attribute [go_sem] List.length_singleton Nat.le_refl List.take_nil
@[go_sem low] theorem spl_uw1 (rs:List Nat) (k d:Nat):spl (uw rs) k (uw [d])=uw (rs.set k d):=spl_uw rs k d
theorem fB (ds:List Nat) (d:Nat) (jk:List Value):uw ds ++(uw [d] ++jk)=uw (ds ++[d]) ++jk:=by simp[uw]
theorem bQ {h:PH} {n:Nat} (hn:n < 2^64):Spec mach 74 #[.int .u64 n] h (fun v h'=>N16 h' v n) NP:=by
  have hl:(W 65536 n).length≤64:=Nat.le_trans (cr n) (bl_le.2 hn)
  refine Spec.enter (args:=[_]) (n:=15) Tryz.func74 rfl (by kernel_rfl) rfl (by simp) [.tmp 2] rfl (fun C _=>?_)
  repeat (first |(refine wo rfl (fun k hk=>?_);simp(disch:=omega) only[go_sem,Nat.reduceBEq,reduceAdd];apply hk;clear hk k) |refine wkt rfl ?_ |refine wk0 ?_ |refine rg rfl rfl (fun K hK=>?_) |((first |refine ae ?_ |refine ac ?_);simp(disch:=decide) only[qs,qb,if_true,if_false,reduceIte]) |refine ah rfl (fun K hK=>?_) |refine ct rfl ?_ |((try simp(disch:=omega) only[go_sem,Nat.reduceBEq,reduceAdd]);(first |apply hK |(clear hK;apply hK) |(clear hK;clear hK;apply hK));clear hK;(try clear K);(try dsimp only[ag,qs,qb])))
  refine eO (fun x:Nat ⊕ (Nat×List Nat×List Value)=>match x with
      |.inl r=>⟨[(0,.v (.int .u64 r)),(3,.v (.slice none 0 0))],[]⟩
      |.inr (r,ds,jk)=>⟨[(0,.v (.int .u64 r)),(3,.s 0 0 ds.length (ds.length+jk.length))],[uw ds ++jk]⟩)
    (fun x _=>match x with
      |.inl r=>r=n
      |.inr (r,ds,_)=>r < 2^64∧W 65536 n=ds ++W 65536 r)
    (fun x=>match x with
      |.inl r=>r
      |.inr (r,_,_)=>r) (.inl n) [] ?_ rfl ?_
  · simp(disch:=omega) only[go_sem,Nat.reduceBEq,reduceAdd]
  · rintro(r |⟨r,ds,jk⟩) h1 hi
    · dsimp only at hi ⊢
      subst hi
      by_cases hr:r=0
      · repeat (first |(refine wo rfl (fun k hk=>?_);simp(disch:=omega) only[go_sem,Nat.reduceBEq,reduceAdd];apply hk;clear hk k) |refine wkt rfl ?_ |refine wk0 ?_ |refine rg rfl rfl (fun K hK=>?_) |((first |refine ae ?_ |refine ac ?_);simp(disch:=decide) only[qs,qb,if_true,if_false,reduceIte]) |refine ah rfl (fun K hK=>?_) |refine ct rfl ?_ |((try simp(disch:=omega) only[go_sem,Nat.reduceBEq,reduceAdd]);(first |apply hK |(clear hK;apply hK) |(clear hK;clear hK;apply hK));clear hK;(try clear K);(try dsimp only[ag,qs,qb])))
        refine ai ?_;simp(disch:=omega) only[go_sem,Nat.reduceBEq,reduceAdd]
        rw[hr];exact N16.zero _
      · repeat (first |(refine wo rfl (fun k hk=>?_);simp(disch:=omega) only[go_sem,Nat.reduceBEq,reduceAdd];apply hk;clear hk k) |refine wkt rfl ?_ |refine wk0 ?_ |refine rg rfl rfl (fun K hK=>?_) |((first |refine ae ?_ |refine ac ?_);simp(disch:=decide) only[qs,qb,if_true,if_false,reduceIte]) |refine ah rfl (fun K hK=>?_) |refine ct rfl ?_ |((try simp(disch:=omega) only[go_sem,Nat.reduceBEq,reduceAdd]);(first |apply hK |(clear hK;apply hK) |(clear hK;clear hK;apply hK));clear hK;(try clear K);(try dsimp only[ag,qs,qb])))
        refine wo rfl (fun k hk=>?_);simp(disch:=omega) only[go_sem,Nat.reduceBEq,reduceAdd]
        intro _ junk
        apply hk;clear hk k
        (repeat (first |(refine wo rfl (fun k hk=>?_);simp(disch:=omega) only[go_sem,Nat.reduceBEq,reduceAdd];apply hk;clear hk k) |refine wkt rfl ?_));(try refine wk0 ?_)
        repeat (first |(refine wo rfl (fun k hk=>?_);simp(disch:=omega) only[go_sem,Nat.reduceBEq,reduceAdd];apply hk;clear hk k) |refine wkt rfl ?_ |refine wk0 ?_ |refine rg rfl rfl (fun K hK=>?_) |((first |refine ae ?_ |refine ac ?_);simp(disch:=decide) only[qs,qb,if_true,if_false,reduceIte]) |refine ah rfl (fun K hK=>?_) |refine ct rfl ?_ |((try simp(disch:=omega) only[go_sem,Nat.reduceBEq,reduceAdd]);(first |apply hK |(clear hK;apply hK) |(clear hK;clear hK;apply hK));clear hK;(try clear K);(try dsimp only[ag,qs,qb])))
        refine⟨.inr (r / 65536,[r % 65536],junk),[1],?_,⟨by omega,?_⟩,by dsimp only;omega⟩
        · simp(disch:=omega) only[go_sem,Nat.reduceBEq,reduceAdd]
        · rw[W_pos B16 hr];rfl
    · dsimp only at hi ⊢
      obtain⟨hr64,hW⟩:=hi
      have hdl:ds.length≤64:=by rw[hW,List.length_append] at hl;omega
      by_cases hr:r=0
      · repeat (first |(refine rg rfl rfl (fun K hK=>?_);(repeat (first |(refine wo rfl (fun k hk=>?_);simp(disch:=omega) only[go_sem,Nat.reduceBEq,reduceAdd];apply hk;clear hk k) |refine wkt rfl ?_));(try refine wk0 ?_);apply hK;clear hK K;(try dsimp only[ag,qs,qb])) |((first |refine ae ?_ |refine ac ?_);simp(disch:=decide) only[qs,qb,if_true,if_false,reduceIte]) |refine ah rfl (fun K hK=>?_) |refine ct rfl ?_ |((first |refine hK _ _ ?_ |(clear hK;refine hK _ _ ?_) |(clear hK;clear hK;refine hK _ _ ?_));clear hK;(try clear K)))
        refine mp 0 ?_
        simp(disch:=omega) only[go_sem,Nat.reduceBEq,reduceAdd]
        intro b h2 hs2 hb
        refine ai ?_;simp(disch:=omega) only[go_sem,Nat.reduceBEq,reduceAdd]
        refine N16.of_pub hb (by rw[hW,hr,ff,List.append_nil]) (by omega) rfl (by omega)
      · repeat (first |(refine wo rfl (fun k hk=>?_);simp(disch:=omega) only[go_sem,Nat.reduceBEq,reduceAdd];apply hk;clear hk k) |refine wkt rfl ?_ |refine wk0 ?_ |refine rg rfl rfl (fun K hK=>?_) |((first |refine ae ?_ |refine ac ?_);simp(disch:=decide) only[qs,qb,if_true,if_false,reduceIte]) |refine ah rfl (fun K hK=>?_) |refine ct rfl ?_ |((try simp(disch:=omega) only[go_sem,Nat.reduceBEq,reduceAdd]);(first |apply hK |(clear hK;apply hK) |(clear hK;clear hK;apply hK));clear hK;(try clear K);(try dsimp only[ag,qs,qb])))
        refine wo rfl (fun k hk=>?_);simp(disch:=omega) only[go_sem,Nat.reduceBEq,reduceAdd]
        intro junk
        apply hk;clear hk k
        (repeat (first |(refine wo rfl (fun k hk=>?_);simp(disch:=omega) only[go_sem,Nat.reduceBEq,reduceAdd];apply hk;clear hk k) |refine wkt rfl ?_));(try refine wk0 ?_)
        repeat (first |(refine wo rfl (fun k hk=>?_);simp(disch:=omega) only[go_sem,Nat.reduceBEq,reduceAdd];apply hk;clear hk k) |refine wkt rfl ?_ |refine wk0 ?_ |refine rg rfl rfl (fun K hK=>?_) |((first |refine ae ?_ |refine ac ?_);simp(disch:=decide) only[qs,qb,if_true,if_false,reduceIte]) |refine ah rfl (fun K hK=>?_) |refine ct rfl ?_ |((try simp(disch:=omega) only[go_sem,Nat.reduceBEq,reduceAdd]);(first |apply hK |(clear hK;apply hK) |(clear hK;clear hK;apply hK));clear hK;(try clear K);(try dsimp only[ag,qs,qb])))
        refine⟨.inr (r / 65536,ds ++[r % 65536],junk),[2],?_,⟨by omega,?_⟩,by dsimp only;omega⟩
        · simp(disch:=omega) only[go_sem,Nat.reduceBEq,reduceAdd,fB]
        · rw[hW,W_pos B16 hr,List.append_assoc];rfl
theorem W_of_ge {B:Nat} (hB:2≤B) {zs:List Nat} (hlt:∀x∈zs,x < B) (h:zs=[]∨B^(zs.length - 1)≤val B zs):W B (val B zs)=zs:=by
  refine W_val hB zs hlt fun hl=>?_
  rcases h with rfl |h
  · cases hl
  · obtain⟨ys,rfl⟩:∃ys,zs=ys ++[0]:=by
      obtain⟨ys,hy⟩:=List.getLast?_eq_some_iff.1 hl
      exact⟨ys,hy⟩
    have h1:=iU (show 1≤B by omega) ys (fun x hx=>hlt x (List.mem_append_left _ hx))
    rw[dD] at h
    simp[val] at h
    omega
theorem gS {B:Nat} {ds:List Nat} {d:Nat} (h:∀x∈ds,x < B) (hd:d < B):∀x∈ds ++[d],x < B:=fun x hx=>by
  rcases List.mem_append.1 hx with h1 |h1
  · exact h x h1
  · rw[List.mem_singleton.1 h1];exact hd
theorem fj (B:Nat) (ds:List Nat) (d:Nat):val B (ds ++[d])=val B ds+B^ds.length*d:=by rw[dD];simp[val]
@[go_sem] theorem uw_nil:uw []=[]:=rfl
attribute [go_sem] List.length_append
theorem nr {h0 h:PH} [Le h0 h] {v w:Value} {m n:Nat} (hv:N16 h0 v m) (hw:N16 h0 w n) (bm:bl m≤2^40) (bn:bl n≤2^40):Spec mach 255 #[v,w] h (fun v h'=>N16 h' v (m+n)) NP:=by
  obtain⟨a,c,xs,rfl,ha,hxs,hm,hx16⟩:=hv.out
  obtain⟨a',c',ys,rfl,ha',hys,hn,hy16⟩:=hw.out
  have hs:xs.length≤2^40:=by have:=cr m;rw[hxs] at this;omega
  have hs':ys.length≤2^40:=by have:=cr n;rw[hys] at this;omega
  refine Spec.enter (args:=[_,_]) (n:=56) Tryz.func255 rfl (by kernel_rfl) rfl (by simp) [.tmp 4] rfl (fun C _=>?_)
  repeat (first |(refine rg rfl rfl (fun K hK=>?_);(repeat (first |(refine wo rfl (fun k hk=>?_);simp(disch:=omega) only[go_sem,Nat.reduceBEq,reduceAdd];apply hk;clear hk k) |refine wkt rfl ?_));(try refine wk0 ?_);apply hK;clear hK K;(try dsimp only[ag,qs,qb])) |((first |refine ae ?_ |refine ac ?_);simp(disch:=decide) only[qs,qb,if_true,if_false,reduceIte]) |refine ah rfl (fun K hK=>?_) |refine ct rfl ?_ |((first |refine hK _ _ ?_ |(clear hK;refine hK _ _ ?_) |(clear hK;clear hK;refine hK _ _ ?_));clear hK;(try clear K)))
  have rest :∀(a a':Option Addr) (c c':Nat) (xs ys:List Nat) (S:AS),Arr h0 a c xs→Arr h0 a' c' ys→(∀x∈xs,x < 65536)→(∀x∈ys,x < 65536)→W 65536 (val 65536 xs)=xs→ys.length≤xs.length→xs.length≤2^40→val 65536 xs+val 65536 ys=m+n→
      S.le ⟨[(0,.v (.slice a xs.length c)),(1,.v (.slice a' ys.length c'))],[]⟩→K S h:=by
    intro a a' c c' xs ys S ha ha' hx16 hy16 hxW hl hs hv hS
    refine hK _ _ (fq _ hS ?_);clear hK K
    repeat (first |(refine wo rfl (fun k hk=>?_);simp(disch:=omega) only[go_sem,Nat.reduceBEq,reduceAdd];apply hk;clear hk k) |refine wkt rfl ?_ |refine wk0 ?_ |refine rg rfl rfl (fun K hK=>?_) |((first |refine ae ?_ |refine ac ?_);simp(disch:=decide) only[qs,qb,if_true,if_false,reduceIte]) |refine ah rfl (fun K hK=>?_) |refine ct rfl ?_ |((try simp(disch:=omega) only[go_sem,Nat.reduceBEq,reduceAdd]);(first |apply hK |(clear hK;apply hK) |(clear hK;clear hK;apply hK));clear hK;(try clear K);(try dsimp only[ag,qs,qb])))
    refine eO (fun x:List Nat×List Value×Nat=>⟨[(0,.v (.slice a xs.length c)),(1,.v (.slice a' ys.length c')),(5,.s 0 0 x.1.length (x.1.length+x.2.1.length)),(6,.v (.int .u32 x.2.2)),(21,.v (.int .i64 xs.length)),(22,.v (.int .i64 x.1.length))],[uw x.1 ++x.2.1]⟩)
      (fun x h'=>Le h0 h'∧x.1.length≤xs.length∧(∀d∈x.1,d < 65536)∧x.2.2≤1∧val 65536 x.1+65536^x.1.length*x.2.2=val 65536 (xs.take x.1.length)+val 65536 (ys.take x.1.length)) (fun x=>xs.length - x.1.length) ([],uw (List.replicate (xs.length+1) 0),0) [0] ?_ ⟨inferInstance,by simp,by simp,by simp,by simp[val]⟩ ?_
    · simp(disch:=omega) only[go_sem,Nat.reduceBEq,reduceAdd]
    · rintro⟨ds,jk,cy⟩ h1 ⟨hle,hk,hlt,hcy,hi⟩
      dsimp only at hk hlt hcy hi ⊢
      by_cases hkl:ds.length < xs.length
      · obtain⟨ad,rfl,hat⟩:=ha.rd h1 (i:=ds.length) (by omega)
        have hx:=aM (by decide) hx16 ds.length
        by_cases hky:ds.length < ys.length
        · obtain⟨ad',rfl,hat'⟩:=ha'.rd h1 (i:=ds.length) (by omega)
          have hy:=aM (by decide) hy16 ds.length
          repeat (first |(refine wo rfl (fun k hk=>?_);simp(disch:=omega) only[go_sem,Nat.reduceBEq,reduceAdd,hat,hat'];apply hk;clear hk k) |refine wkt rfl ?_ |refine wk0 ?_ |refine rg rfl rfl (fun K hK=>?_) |((first |refine ae ?_ |refine ac ?_);simp(disch:=decide) only[qs,qb,if_true,if_false,reduceIte]) |refine ah rfl (fun K hK=>?_) |refine ct rfl ?_ |((try simp(disch:=omega) only[go_sem,Nat.reduceBEq,reduceAdd]);(first |apply hK |(clear hK;apply hK) |(clear hK;clear hK;apply hK));clear hK;(try clear K);(try dsimp only[ag,qs,qb])))
          refine wo rfl (fun k hk=>?_);simp(disch:=omega) only[go_sem,Nat.reduceBEq,reduceAdd]
          intro junk
          apply hk;clear hk k
          (repeat (first |(refine wo rfl (fun k hk=>?_);simp(disch:=omega) only[go_sem,Nat.reduceBEq,reduceAdd];apply hk;clear hk k) |refine wkt rfl ?_));(try refine wk0 ?_)
          repeat (first |(refine wo rfl (fun k hk=>?_);simp(disch:=omega) only[go_sem,Nat.reduceBEq,reduceAdd];apply hk;clear hk k) |refine wkt rfl ?_ |refine wk0 ?_ |refine rg rfl rfl (fun K hK=>?_) |((first |refine ae ?_ |refine ac ?_);simp(disch:=decide) only[qs,qb,if_true,if_false,reduceIte]) |refine ah rfl (fun K hK=>?_) |refine ct rfl ?_ |((try simp(disch:=omega) only[go_sem,Nat.reduceBEq,reduceAdd]);(first |apply hK |(clear hK;apply hK) |(clear hK;clear hK;apply hK));clear hK;(try clear K);(try dsimp only[ag,qs,qb])))
          refine⟨(ds ++[(xs.getD ds.length 0+cy+ys.getD ds.length 0) % 65536],junk,(xs.getD ds.length 0+cy+ys.getD ds.length 0) / 65536),[2],?_,⟨hle,by simp;omega,gS hlt (Nat.mod_lt _ (by decide)),by dsimp only;omega,?_⟩,by simp;omega⟩
          · simp(disch:=omega) only[go_sem,Nat.reduceBEq,reduceAdd,fB]
          · simp only[List.length_append,List.length_singleton]
            rw[fj,aq _ xs,aq _ ys,Nat.pow_succ]
            exact pS rfl hi
        · repeat (first |(refine wo rfl (fun k hk=>?_);simp(disch:=omega) only[go_sem,Nat.reduceBEq,reduceAdd,hat];apply hk;clear hk k) |refine wkt rfl ?_ |refine wk0 ?_ |refine rg rfl rfl (fun K hK=>?_) |((first |refine ae ?_ |refine ac ?_);simp(disch:=decide) only[qs,qb,if_true,if_false,reduceIte]) |refine ah rfl (fun K hK=>?_) |refine ct rfl ?_ |((try simp(disch:=omega) only[go_sem,Nat.reduceBEq,reduceAdd]);(first |apply hK |(clear hK;apply hK) |(clear hK;clear hK;apply hK));clear hK;(try clear K);(try dsimp only[ag,qs,qb])))
          refine wo rfl (fun k hk=>?_);simp(disch:=omega) only[go_sem,Nat.reduceBEq,reduceAdd]
          intro junk
          apply hk;clear hk k
          (repeat (first |(refine wo rfl (fun k hk=>?_);simp(disch:=omega) only[go_sem,Nat.reduceBEq,reduceAdd];apply hk;clear hk k) |refine wkt rfl ?_));(try refine wk0 ?_)
          repeat (first |(refine wo rfl (fun k hk=>?_);simp(disch:=omega) only[go_sem,Nat.reduceBEq,reduceAdd];apply hk;clear hk k) |refine wkt rfl ?_ |refine wk0 ?_ |refine rg rfl rfl (fun K hK=>?_) |((first |refine ae ?_ |refine ac ?_);simp(disch:=decide) only[qs,qb,if_true,if_false,reduceIte]) |refine ah rfl (fun K hK=>?_) |refine ct rfl ?_ |((try simp(disch:=omega) only[go_sem,Nat.reduceBEq,reduceAdd]);(first |apply hK |(clear hK;apply hK) |(clear hK;clear hK;apply hK));clear hK;(try clear K);(try dsimp only[ag,qs,qb])))
          refine⟨(ds ++[(xs.getD ds.length 0+cy) % 65536],junk,(xs.getD ds.length 0+cy) / 65536),[2],?_,⟨hle,by simp;omega,gS hlt (Nat.mod_lt _ (by decide)),by dsimp only;omega,?_⟩,by simp;omega⟩
          · simp(disch:=omega) only[go_sem,Nat.reduceBEq,reduceAdd,fB]
          · have hy:ys.getD ds.length 0=0:=getD_none (by omega)
            simp only[List.length_append,List.length_singleton]
            rw[fj,aq _ xs,aq _ ys,Nat.pow_succ,hy]
            exact pS (by omega) hi
      · have hkl':ds.length=xs.length:=by omega
        rw[hkl',List.take_of_length_le (Nat.le_refl _),List.take_of_length_le hl,hv] at hi
        by_cases hc0:cy=0
        · rw[hc0,Nat.mul_zero,Nat.add_zero] at hi
          repeat (first |(refine rg rfl rfl (fun K hK=>?_);(repeat (first |(refine wo rfl (fun k hk=>?_);simp(disch:=omega) only[go_sem,Nat.reduceBEq,reduceAdd];apply hk;clear hk k) |refine wkt rfl ?_));(try refine wk0 ?_);apply hK;clear hK K;(try dsimp only[ag,qs,qb])) |((first |refine ae ?_ |refine ac ?_);simp(disch:=decide) only[qs,qb,if_true,if_false,reduceIte]) |refine ah rfl (fun K hK=>?_) |refine ct rfl ?_ |((first |refine hK _ _ ?_ |(clear hK;refine hK _ _ ?_) |(clear hK;clear hK;refine hK _ _ ?_));clear hK;(try clear K)))
          refine mp 0 ?_
          simp(disch:=omega) only[go_sem,Nat.reduceBEq,reduceAdd]
          intro b h2 hs2 hb
          refine ai ?_;simp(disch:=omega) only[go_sem,Nat.reduceBEq,reduceAdd]
          refine N16.of_pub hb ?_ (by omega) rfl (by omega)
          rw[←hi]
          refine W_of_ge B16 hlt ?_
          by_cases hx0:xs.length=0
          · left;exact List.eq_nil_of_length_eq_zero (by omega)
          · right
            have hv0:val 65536 xs≠0:=by intro e;rw[e,ff] at hxW;rw[←hxW] at hx0;exact hx0 rfl
            have h3:=(W_top B16 hv0).2.1
            rw[hxW] at h3
            rw[hkl',hi]
            omega
        · repeat (first |(refine wo rfl (fun k hk=>?_);simp(disch:=omega) only[go_sem,Nat.reduceBEq,reduceAdd];apply hk;clear hk k) |refine wkt rfl ?_ |refine wk0 ?_ |refine rg rfl rfl (fun K hK=>?_) |((first |refine ae ?_ |refine ac ?_);simp(disch:=decide) only[qs,qb,if_true,if_false,reduceIte]) |refine ah rfl (fun K hK=>?_) |refine ct rfl ?_ |((try simp(disch:=omega) only[go_sem,Nat.reduceBEq,reduceAdd]);(first |apply hK |(clear hK;apply hK) |(clear hK;clear hK;apply hK));clear hK;(try clear K);(try dsimp only[ag,qs,qb])))
          refine wo rfl (fun k hk=>?_);simp(disch:=omega) only[go_sem,Nat.reduceBEq,reduceAdd]
          intro junk
          apply hk;clear hk k
          (repeat (first |(refine wo rfl (fun k hk=>?_);simp(disch:=omega) only[go_sem,Nat.reduceBEq,reduceAdd];apply hk;clear hk k) |refine wkt rfl ?_));(try refine wk0 ?_)
          repeat (first |(refine wo rfl (fun k hk=>?_);simp(disch:=omega) only[go_sem,Nat.reduceBEq,reduceAdd];apply hk;clear hk k) |refine wkt rfl ?_ |refine wk0 ?_ |((first |refine rg rfl rfl (fun K hK=>?_));(repeat (first |(refine wo rfl (fun k hk=>?_);simp(disch:=omega) only[go_sem,Nat.reduceBEq,reduceAdd];apply hk;clear hk k) |refine wkt rfl ?_ |refine wk0 ?_));(first |apply hK |(clear hK;apply hK) |(clear hK;clear hK;apply hK));clear hK;(try clear K);(try dsimp only[ag,qs,qb])) |((first |refine ae ?_ |refine ac ?_);simp(disch:=decide) only[qs,qb,if_true,if_false,reduceIte]) |refine ah rfl (fun K hK=>?_) |refine ct rfl ?_ |((try simp(disch:=omega) only[go_sem,Nat.reduceBEq,reduceAdd]);(first |apply hK |(clear hK;apply hK) |(clear hK;clear hK;apply hK));clear hK;(try clear K);(try dsimp only[ag,qs,qb])))
          refine mp 2 ?_
          simp(disch:=omega) only[go_sem,Nat.reduceBEq,reduceAdd]
          intro b h2 hs2 hb
          refine ai ?_;simp(disch:=omega) only[go_sem,Nat.reduceBEq,reduceAdd]
          simp only[fB] at hb
          refine N16.of_pub hb ?_ (by simp;omega) (by simp) (by simp)
          rw[←hi,←hkl',←fj]
          exact W_val B16 _ (gS hlt (by omega)) (by simpa using hc0)
  refine mP rfl (fun ht=>?_) (fun ht=>?_)
  · have:=of_decide_eq_true ht
    refine ug rfl ?_;(repeat (first |(refine wo rfl (fun k hk=>?_);simp(disch:=omega) only[go_sem,Nat.reduceBEq,reduceAdd];apply hk;clear hk k) |refine wkt rfl ?_));(try refine wk0 ?_);simp only[qs,qb,if_true,if_false,reduceIte]
    refine rest _ _ _ _ ys xs _ ha' ha hy16 hx16 (by rw[hn];exact hys) (by omega) hs' (by omega) ?_
    simp(disch:=omega) only[go_sem,Nat.reduceBEq,reduceAdd]
  · have:=of_decide_eq_false ht
    refine ac ?_;simp only[qs,qb,if_true,if_false,reduceIte]
    refine rest _ _ _ _ xs ys _ ha ha' hx16 hy16 (by rw[hm];exact hxs) (by omega) hs (by omega) ?_
    simp(disch:=omega) only[go_sem,Nat.reduceBEq,reduceAdd]
theorem Arr.of_app {h:PH} {b:Nat} {ds:List Nat} {junk:List Value} {c:Nat} (hb:uw ds ++junk≠[]→h b=some (uw ds ++junk).toArray) (hlt:∀x∈ds,x < 65536) (hs:ds.length≤2^46) (hc:ds.length≤c):Arr h (some ⟨b,0,none⟩) c ds:=by
  refine .of_block hb (fun i x hi=>?_) (fun x hx=>by have:=hlt x hx;omega) hs hc
  have hil:i < ds.length:=(List.getElem?_eq_some_iff.1 hi).1
  rw[List.getElem?_append_left (by simp[uw];exact hil)]
  simp[uw,hi]
theorem lj {h0 h:PH} [Le h0 h] {v w:Value} {m n:Nat} (hv:N16 h0 v m) (hw:N16 h0 w n) (hnm:n≤m) (bm:bl m≤2^40):Spec mach 256 #[v,w] h (fun v h'=>N16 h' v (m - n)) NP:=by
  obtain⟨a,c,xs,rfl,ha,hxs,hm,hx16⟩:=hv.out
  obtain⟨a',c',ys,rfl,ha',hys,hn,hy16⟩:=hw.out
  have hs:xs.length≤2^40:=by have:=cr m;rw[hxs] at this;omega
  have hl:ys.length≤xs.length:=by
    rcases Nat.lt_or_ge xs.length ys.length with h' |h'
    · have:=lm B16 (m:=m) (n:=n) (by rw[hxs,hys];exact h');omega
    · exact h'
  refine Spec.enter (args:=[_,_]) (n:=47) Tryz.func256 rfl (by kernel_rfl) rfl (by simp) [.tmp 4] rfl (fun C _=>?_)
  repeat (first |(refine wo rfl (fun k hk=>?_);simp(disch:=omega) only[go_sem,Nat.reduceBEq,reduceAdd];apply hk;clear hk k) |refine wkt rfl ?_ |refine wk0 ?_ |refine rg rfl rfl (fun K hK=>?_) |((first |refine ae ?_ |refine ac ?_);simp(disch:=decide) only[qs,qb,if_true,if_false,reduceIte]) |refine ah rfl (fun K hK=>?_) |refine ct rfl ?_ |((try simp(disch:=omega) only[go_sem,Nat.reduceBEq,reduceAdd]);(first |apply hK |(clear hK;apply hK) |(clear hK;clear hK;apply hK));clear hK;(try clear K);(try dsimp only[ag,qs,qb])))
  refine eO (fun x:List Nat×List Value×Nat=>⟨[(0,.v (.slice a xs.length c)),(1,.v (.slice a' ys.length c')),(5,.s 0 0 x.1.length (x.1.length+x.2.1.length)),(6,.v (.int .u32 x.2.2)),(14,.v (.int .i64 xs.length)),(15,.v (.int .i64 x.1.length))],[uw x.1 ++x.2.1]⟩)
      (fun x h'=>Le h0 h'∧x.1.length≤xs.length∧(∀d∈x.1,d < 65536)∧x.2.2≤1∧val 65536 (xs.take x.1.length)+65536^x.1.length*x.2.2=val 65536 x.1+val 65536 (ys.take x.1.length)) (fun x=>xs.length - x.1.length) ([],uw (List.replicate xs.length 0),0) [0] ?_ ⟨inferInstance,by simp,by simp,by simp,by simp[val]⟩ ?_
  · simp(disch:=omega) only[go_sem,Nat.reduceBEq,reduceAdd]
  · rintro⟨ds,jk,cy⟩ h1 ⟨hle,hk,hlt,hcy,hi⟩
    dsimp only at hk hlt hcy hi ⊢
    by_cases hkl:ds.length < xs.length
    · obtain⟨ad,rfl,hat⟩:=ha.rd h1 (i:=ds.length) (by omega)
      have hx:=aM (by decide) hx16 ds.length
      by_cases hky:ds.length < ys.length
      · obtain⟨ad',rfl,hat'⟩:=ha'.rd h1 (i:=ds.length) (by omega)
        have hy:=aM (by decide) hy16 ds.length
        by_cases hb:xs.getD ds.length 0 < cy+ys.getD ds.length 0
        · repeat (first |(refine wo rfl (fun k hk=>?_);simp(disch:=omega) only[go_sem,Nat.reduceBEq,reduceAdd,hat,hat'];apply hk;clear hk k) |refine wkt rfl ?_ |refine wk0 ?_ |refine rg rfl rfl (fun K hK=>?_) |((first |refine ae ?_ |refine ac ?_);simp(disch:=decide) only[qs,qb,if_true,if_false,reduceIte]) |refine ah rfl (fun K hK=>?_) |refine ct rfl ?_ |((try simp(disch:=omega) only[go_sem,Nat.reduceBEq,reduceAdd]);(first |apply hK |(clear hK;apply hK) |(clear hK;clear hK;apply hK));clear hK;(try clear K);(try dsimp only[ag,qs,qb])))
          refine wo rfl (fun k hk=>?_);simp(disch:=omega) only[go_sem,Nat.reduceBEq,reduceAdd]
          intro junk
          apply hk;clear hk k
          (repeat (first |(refine wo rfl (fun k hk=>?_);simp(disch:=omega) only[go_sem,Nat.reduceBEq,reduceAdd];apply hk;clear hk k) |refine wkt rfl ?_));(try refine wk0 ?_)
          repeat (first |(refine wo rfl (fun k hk=>?_);simp(disch:=omega) only[go_sem,Nat.reduceBEq,reduceAdd];apply hk;clear hk k) |refine wkt rfl ?_ |refine wk0 ?_ |refine rg rfl rfl (fun K hK=>?_) |((first |refine ae ?_ |refine ac ?_);simp(disch:=decide) only[qs,qb,if_true,if_false,reduceIte]) |refine ah rfl (fun K hK=>?_) |refine ct rfl ?_ |((try simp(disch:=omega) only[go_sem,Nat.reduceBEq,reduceAdd]);(first |apply hK |(clear hK;apply hK) |(clear hK;clear hK;apply hK));clear hK;(try clear K);(try dsimp only[ag,qs,qb])))
          refine⟨(ds ++[xs.getD ds.length 0+65536 - (cy+ys.getD ds.length 0)],junk,1),[2],?_,⟨hle,by simp;omega,gS hlt (by omega),by simp,?_⟩,by simp;omega⟩
          · simp(disch:=omega) only[go_sem,Nat.reduceBEq,reduceAdd,fB]
          · simp only[List.length_append,List.length_singleton]
            rw[fj,aq _ xs,aq _ ys,Nat.pow_succ]
            exact ow (by omega) hi
        · repeat (first |(refine wo rfl (fun k hk=>?_);simp(disch:=omega) only[go_sem,Nat.reduceBEq,reduceAdd,hat,hat'];apply hk;clear hk k) |refine wkt rfl ?_ |refine wk0 ?_ |refine rg rfl rfl (fun K hK=>?_) |((first |refine ae ?_ |refine ac ?_);simp(disch:=decide) only[qs,qb,if_true,if_false,reduceIte]) |refine ah rfl (fun K hK=>?_) |refine ct rfl ?_ |((try simp(disch:=omega) only[go_sem,Nat.reduceBEq,reduceAdd]);(first |apply hK |(clear hK;apply hK) |(clear hK;clear hK;apply hK));clear hK;(try clear K);(try dsimp only[ag,qs,qb])))
          refine wo rfl (fun k hk=>?_);simp(disch:=omega) only[go_sem,Nat.reduceBEq,reduceAdd]
          intro junk
          apply hk;clear hk k
          (repeat (first |(refine wo rfl (fun k hk=>?_);simp(disch:=omega) only[go_sem,Nat.reduceBEq,reduceAdd];apply hk;clear hk k) |refine wkt rfl ?_));(try refine wk0 ?_)
          repeat (first |(refine wo rfl (fun k hk=>?_);simp(disch:=omega) only[go_sem,Nat.reduceBEq,reduceAdd];apply hk;clear hk k) |refine wkt rfl ?_ |refine wk0 ?_ |refine rg rfl rfl (fun K hK=>?_) |((first |refine ae ?_ |refine ac ?_);simp(disch:=decide) only[qs,qb,if_true,if_false,reduceIte]) |refine ah rfl (fun K hK=>?_) |refine ct rfl ?_ |((try simp(disch:=omega) only[go_sem,Nat.reduceBEq,reduceAdd]);(first |apply hK |(clear hK;apply hK) |(clear hK;clear hK;apply hK));clear hK;(try clear K);(try dsimp only[ag,qs,qb])))
          refine⟨(ds ++[xs.getD ds.length 0 - (cy+ys.getD ds.length 0)],junk,0),[2],?_,⟨hle,by simp;omega,gS hlt (by omega),by simp,?_⟩,by simp;omega⟩
          · simp(disch:=omega) only[go_sem,Nat.reduceBEq,reduceAdd,fB]
          · simp only[List.length_append,List.length_singleton]
            rw[fj,aq _ xs,aq _ ys,Nat.pow_succ]
            exact ow (by omega) hi
      · have hy:ys.getD ds.length 0=0:=getD_none (by omega)
        by_cases hb:xs.getD ds.length 0 < cy
        · repeat (first |(refine wo rfl (fun k hk=>?_);simp(disch:=omega) only[go_sem,Nat.reduceBEq,reduceAdd,hat];apply hk;clear hk k) |refine wkt rfl ?_ |refine wk0 ?_ |refine rg rfl rfl (fun K hK=>?_) |((first |refine ae ?_ |refine ac ?_);simp(disch:=decide) only[qs,qb,if_true,if_false,reduceIte]) |refine ah rfl (fun K hK=>?_) |refine ct rfl ?_ |((try simp(disch:=omega) only[go_sem,Nat.reduceBEq,reduceAdd]);(first |apply hK |(clear hK;apply hK) |(clear hK;clear hK;apply hK));clear hK;(try clear K);(try dsimp only[ag,qs,qb])))
          refine wo rfl (fun k hk=>?_);simp(disch:=omega) only[go_sem,Nat.reduceBEq,reduceAdd]
          intro junk
          apply hk;clear hk k
          (repeat (first |(refine wo rfl (fun k hk=>?_);simp(disch:=omega) only[go_sem,Nat.reduceBEq,reduceAdd];apply hk;clear hk k) |refine wkt rfl ?_));(try refine wk0 ?_)
          repeat (first |(refine wo rfl (fun k hk=>?_);simp(disch:=omega) only[go_sem,Nat.reduceBEq,reduceAdd];apply hk;clear hk k) |refine wkt rfl ?_ |refine wk0 ?_ |refine rg rfl rfl (fun K hK=>?_) |((first |refine ae ?_ |refine ac ?_);simp(disch:=decide) only[qs,qb,if_true,if_false,reduceIte]) |refine ah rfl (fun K hK=>?_) |refine ct rfl ?_ |((try simp(disch:=omega) only[go_sem,Nat.reduceBEq,reduceAdd]);(first |apply hK |(clear hK;apply hK) |(clear hK;clear hK;apply hK));clear hK;(try clear K);(try dsimp only[ag,qs,qb])))
          refine⟨(ds ++[xs.getD ds.length 0+65536 - cy],junk,1),[2],?_,⟨hle,by simp;omega,gS hlt (by omega),by simp,?_⟩,by simp;omega⟩
          · simp(disch:=omega) only[go_sem,Nat.reduceBEq,reduceAdd,fB]
          · simp only[List.length_append,List.length_singleton]
            rw[fj,aq _ xs,aq _ ys,Nat.pow_succ]
            exact ow (by omega) hi
        · repeat (first |(refine wo rfl (fun k hk=>?_);simp(disch:=omega) only[go_sem,Nat.reduceBEq,reduceAdd,hat];apply hk;clear hk k) |refine wkt rfl ?_ |refine wk0 ?_ |refine rg rfl rfl (fun K hK=>?_) |((first |refine ae ?_ |refine ac ?_);simp(disch:=decide) only[qs,qb,if_true,if_false,reduceIte]) |refine ah rfl (fun K hK=>?_) |refine ct rfl ?_ |((try simp(disch:=omega) only[go_sem,Nat.reduceBEq,reduceAdd]);(first |apply hK |(clear hK;apply hK) |(clear hK;clear hK;apply hK));clear hK;(try clear K);(try dsimp only[ag,qs,qb])))
          refine wo rfl (fun k hk=>?_);simp(disch:=omega) only[go_sem,Nat.reduceBEq,reduceAdd]
          intro junk
          apply hk;clear hk k
          (repeat (first |(refine wo rfl (fun k hk=>?_);simp(disch:=omega) only[go_sem,Nat.reduceBEq,reduceAdd];apply hk;clear hk k) |refine wkt rfl ?_));(try refine wk0 ?_)
          repeat (first |(refine wo rfl (fun k hk=>?_);simp(disch:=omega) only[go_sem,Nat.reduceBEq,reduceAdd];apply hk;clear hk k) |refine wkt rfl ?_ |refine wk0 ?_ |refine rg rfl rfl (fun K hK=>?_) |((first |refine ae ?_ |refine ac ?_);simp(disch:=decide) only[qs,qb,if_true,if_false,reduceIte]) |refine ah rfl (fun K hK=>?_) |refine ct rfl ?_ |((try simp(disch:=omega) only[go_sem,Nat.reduceBEq,reduceAdd]);(first |apply hK |(clear hK;apply hK) |(clear hK;clear hK;apply hK));clear hK;(try clear K);(try dsimp only[ag,qs,qb])))
          refine⟨(ds ++[xs.getD ds.length 0 - cy],junk,0),[2],?_,⟨hle,by simp;omega,gS hlt (by omega),by simp,?_⟩,by simp;omega⟩
          · simp(disch:=omega) only[go_sem,Nat.reduceBEq,reduceAdd,fB]
          · simp only[List.length_append,List.length_singleton]
            rw[fj,aq _ xs,aq _ ys,Nat.pow_succ]
            exact ow (by omega) hi
    · have hkl':ds.length=xs.length:=by omega
      rw[hkl',List.take_of_length_le (Nat.le_refl _),List.take_of_length_le hl,hm,hn] at hi
      have hval:val 65536 ds=m - n:=by
        have h3:=iU (by decide) ds hlt
        rw[hkl'] at h3
        obtain rfl:cy=0:=by
          rcases Nat.lt_or_ge cy 1 with h |h
          · omega
          · obtain rfl:cy=1:=by omega
            omega
        omega
      repeat (first |(refine rg rfl rfl (fun K hK=>?_);(repeat (first |(refine wo rfl (fun k hk=>?_);simp(disch:=omega) only[go_sem,Nat.reduceBEq,reduceAdd];apply hk;clear hk k) |refine wkt rfl ?_));(try refine wk0 ?_);apply hK;clear hK K;(try dsimp only[ag,qs,qb])) |((first |refine ae ?_ |refine ac ?_);simp(disch:=decide) only[qs,qb,if_true,if_false,reduceIte]) |refine ah rfl (fun K hK=>?_) |refine ct rfl ?_ |((first |refine hK _ _ ?_ |(clear hK;refine hK _ _ ?_) |(clear hK;clear hK;refine hK _ _ ?_));clear hK;(try clear K)))
      refine fk [.p 0,.o 0,.o 1,.o 2] rfl rfl (fun K hK=>?_);(repeat (first |(refine wo rfl (fun k hk=>?_);simp(disch:=omega) only[go_sem,Nat.reduceBEq,reduceAdd];apply hk;clear hk k) |refine wkt rfl ?_));(try refine wk0 ?_)
      refine wkp ?_;simp(disch:=omega) only[go_sem,Nat.reduceBEq,reduceAdd];intro b h2 hs2 hb;(repeat (first |(refine wo rfl (fun k hk=>?_);simp(disch:=omega) only[go_sem,Nat.reduceBEq,reduceAdd];apply hk;clear hk k) |refine wkt rfl ?_));(try refine wk0 ?_)
      have hA:Arr h2 (some ⟨b,0,none⟩) (ds.length+jk.length) ds:=.of_app hb hlt (by omega) (by omega)
      refine cN rfl rfl rfl rfl (by exact nY hA hlt rfl) ?_;rintro v3 h3 _ hv3;obtain⟨v3,v3_l,v3_c,rfl,hv3⟩:=hv3.sl;(repeat (first |(refine wo rfl (fun k hk=>?_);simp(disch:=omega) only[go_sem,Nat.reduceBEq,reduceAdd];apply hk;clear hk k) |refine wkt rfl ?_));(try refine wk0 ?_)
      (try (simp(disch:=omega) only[go_sem,Nat.reduceBEq,reduceAdd]));apply hK;clear hK;(try clear K);(try dsimp only[ag,qs])
      refine ai ?_;simp(disch:=omega) only[go_sem,Nat.reduceBEq,reduceAdd]
      rwa[hval] at hv3
theorem aV {h0 h:PH} [Le h0 h] {v w:Value} {m n:Nat} (hv:N16 h0 v m) (hw:N16 h0 w n) (bm:bl m≤2^40) (bn:bl n≤2^40):Spec mach 194 #[v,w] h (fun v h'=>N16 h' v (m*n)) NP:=by
  obtain⟨a,c,xs,rfl,ha,hxs,hm,hx16⟩:=hv.out
  obtain⟨a',c',ys,rfl,ha',hys,hn,hy16⟩:=hw.out
  have hs:xs.length≤2^40:=by have:=cr m;rw[hxs] at this;omega
  have hs':ys.length≤2^40:=by have:=cr n;rw[hys] at this;omega
  refine Spec.enter (args:=[_,_]) (n:=77) Tryz.func194 rfl (by kernel_rfl) rfl (by simp) [.tmp 4] rfl (fun C _=>?_)
  have z1:xs.length=0→m*n=0:=fun h=>by rw[←hm,List.eq_nil_of_length_eq_zero h];simp[val]
  have z2:ys.length=0→m*n=0:=fun h=>by rw[←hn,List.eq_nil_of_length_eq_zero h];simp[val]
  by_cases hx0:xs.length=0
  · repeat (first |(refine wo rfl (fun k hk=>?_);simp(disch:=omega) only[go_sem,Nat.reduceBEq,reduceAdd];apply hk;clear hk k) |refine wkt rfl ?_ |refine wk0 ?_ |refine rg rfl rfl (fun K hK=>?_) |((first |refine ae ?_ |refine ac ?_);simp(disch:=decide) only[qs,qb,if_true,if_false,reduceIte]) |refine ah rfl (fun K hK=>?_) |refine ct rfl ?_ |((try simp(disch:=omega) only[go_sem,Nat.reduceBEq,reduceAdd]);(first |apply hK |(clear hK;apply hK) |(clear hK;clear hK;apply hK));clear hK;(try clear K);(try dsimp only[ag,qs,qb])))
    refine ai ?_;simp(disch:=omega) only[go_sem,Nat.reduceBEq,reduceAdd]
    rw[z1 hx0];exact N16.zero _
  by_cases hy0:ys.length=0
  · repeat (first |(refine wo rfl (fun k hk=>?_);simp(disch:=omega) only[go_sem,Nat.reduceBEq,reduceAdd];apply hk;clear hk k) |refine wkt rfl ?_ |refine wk0 ?_ |refine rg rfl rfl (fun K hK=>?_) |((first |refine ae ?_ |refine ac ?_);simp(disch:=decide) only[qs,qb,if_true,if_false,reduceIte]) |refine ah rfl (fun K hK=>?_) |refine ct rfl ?_ |((try simp(disch:=omega) only[go_sem,Nat.reduceBEq,reduceAdd]);(first |apply hK |(clear hK;apply hK) |(clear hK;clear hK;apply hK));clear hK;(try clear K);(try dsimp only[ag,qs,qb])))
    refine ai ?_;simp(disch:=omega) only[go_sem,Nat.reduceBEq,reduceAdd]
    rw[z2 hy0];exact N16.zero _
  clear z1 z2
  repeat (first |(refine wo rfl (fun k hk=>?_);simp(disch:=omega) only[go_sem,Nat.reduceBEq,reduceAdd];apply hk;clear hk k) |refine wkt rfl ?_ |refine wk0 ?_ |refine rg rfl rfl (fun K hK=>?_) |((first |refine ae ?_ |refine ac ?_);simp(disch:=decide) only[qs,qb,if_true,if_false,reduceIte]) |refine ah rfl (fun K hK=>?_) |refine ct rfl ?_ |((try simp(disch:=omega) only[go_sem,Nat.reduceBEq,reduceAdd]);(first |apply hK |(clear hK;apply hK) |(clear hK;clear hK;apply hK));clear hK;(try clear K);(try dsimp only[ag,qs,qb])))
  refine cg (fun x:Nat×List Nat=>⟨[(0,.v (.slice a xs.length c)),(1,.v (.slice a' ys.length c')),(5,.s 0 0 (xs.length+ys.length) (xs.length+ys.length)),(26,.v (.slice a xs.length c)),(27,.v (.int .i64 xs.length)),(28,.v (.int .i64 x.1))],[uw x.2]⟩)
      (fun x h'=>Le h0 h'∧x.1≤xs.length∧x.2.length=xs.length+ys.length∧(∀d∈x.2,d < 65536)∧val 65536 (x.2.take (x.1+ys.length))=val 65536 (xs.take x.1)*val 65536 ys) (fun x=>xs.length - x.1) (0,List.replicate (xs.length+ys.length) 0) ?_ ⟨inferInstance,by simp,by simp,gG (by decide),by simp[val,mO]⟩ ?_
  · simp(disch:=omega) only[go_sem,Nat.reduceBEq,reduceAdd]
  · rintro⟨k,rs⟩ h1 ⟨hle,hk,hr,hlt,hi⟩
    dsimp only at hk hr hlt hi ⊢
    by_cases hkl:k < xs.length
    · obtain⟨ad,rfl,hat⟩:=ha.rd h1 (i:=k) (by omega)
      have hx:=aM (by decide) hx16 k
      repeat (first |(refine wo rfl (fun k hk=>?_);simp(disch:=omega) only[go_sem,Nat.reduceBEq,reduceAdd,hat];apply hk;clear hk k) |refine wkt rfl ?_ |refine wk0 ?_ |refine rg rfl rfl (fun K hK=>?_) |((first |refine ae ?_ |refine ac ?_);simp(disch:=decide) only[qs,qb,if_true,if_false,reduceIte]) |refine ah rfl (fun K hK=>?_) |refine ct rfl ?_ |((try simp(disch:=omega) only[go_sem,Nat.reduceBEq,reduceAdd]);(first |apply hK |(clear hK;apply hK) |(clear hK;clear hK;apply hK));clear hK;(try clear K);(try dsimp only[ag,qs,qb])))
      refine cg (fun x:Nat×List Nat×Nat=>⟨[(0,.v (.slice (some ad) xs.length c)),(1,.v (.slice a' ys.length c')),(5,.s 0 0 (xs.length+ys.length) (xs.length+ys.length)),(26,.v (.slice (some ad) xs.length c)),(27,.v (.int .i64 xs.length)),(28,.v (.int .i64 k)),(6,.v (.int .i64 k)),(7,.v (.int .u32 (xs.getD k 0:Nat))),(8,.v (.int .u64 x.2.2)),(33,.v (.slice a' ys.length c')),(34,.v (.int .i64 ys.length)),(35,.v (.int .i64 x.1))],[uw x.2.1]⟩)
        (fun x h'=>Le h0 h'∧x.1≤ys.length∧x.2.1.length=xs.length+ys.length∧(∀d∈x.2.1,d < 65536)∧x.2.2 < 65536∧val 65536 (x.2.1.take (k+ys.length))+65536^(k+x.1)*x.2.2=val 65536 (rs.take (k+ys.length))+65536^k*(xs.getD k 0*val 65536 (ys.take x.1))) (fun x=>ys.length - x.1) (0,rs,0) ?_ ⟨hle,by simp,hr,hlt,by simp,by simp[val]⟩ ?_
      · simp(disch:=omega) only[go_sem,Nat.reduceBEq,reduceAdd]
      · rintro⟨j,rs',cy⟩ h2 ⟨hle',hj,hr',hlt',hcy,hi'⟩
        dsimp only at hj hr' hlt' hcy hi' ⊢
        by_cases hjl:j < ys.length
        · obtain⟨ad',rfl,hat'⟩:=ha'.rd h2 (i:=j) (by omega)
          have hy:=aM (by decide) hy16 j
          have hd:=aM (by decide) hlt' (k+j)
          have hxy:xs.getD k 0*ys.getD j 0≤65535*65535:=Nat.mul_le_mul (by omega) (by omega)
          repeat (first |(refine wo rfl (fun k hk=>?_);simp(disch:=omega) only[go_sem,Nat.reduceBEq,reduceAdd,hat'];apply hk;clear hk k) |refine wkt rfl ?_ |refine wk0 ?_ |refine rg rfl rfl (fun K hK=>?_) |((first |refine ae ?_ |refine ac ?_);simp(disch:=decide) only[qs,qb,if_true,if_false,reduceIte]) |refine ah rfl (fun K hK=>?_) |refine ct rfl ?_ |((try simp(disch:=omega) only[go_sem,Nat.reduceBEq,reduceAdd]);(first |apply hK |(clear hK;apply hK) |(clear hK;clear hK;apply hK));clear hK;(try clear K);(try dsimp only[ag,qs,qb])))
          refine⟨(j+1,rs'.set (k+j) ((rs'.getD (k+j) 0+xs.getD k 0*ys.getD j 0+cy) % 65536),(rs'.getD (k+j) 0+xs.getD k 0*ys.getD j 0+cy) / 65536),?_,⟨hle',by dsimp only;omega,by simp[hr'],d9 hlt' (Nat.mod_lt _ (by decide)),by dsimp only;omega,?_⟩,by simp only;omega⟩
          · simp(disch:=omega) only[go_sem,Nat.reduceBEq,reduceAdd]
          · dsimp only
            rw[aq _ ys,←Nat.add_assoc,Nat.pow_succ,Nat.mul_add,Nat.mul_add,←Nat.mul_assoc _ (65536^j),Nat.mul_comm (xs.getD k 0) (65536^j),Nat.mul_assoc (65536^j),←Nat.mul_assoc _ (65536^j),←Nat.pow_add]
            have e:rs'.getD (k+j) 0+xs.getD k 0*ys.getD j 0+cy=xs.getD k 0*ys.getD j 0+rs'.getD (k+j) 0+cy:=by omega
            rw[e]
            exact Dv (Nat.mod_add_div _ _).symm hi' (tV (by omega) (by omega))
        · repeat (first |(refine rg rfl rfl (fun K hK=>?_);(repeat (first |(refine wo rfl (fun k hk=>?_);simp(disch:=omega) only[go_sem,Nat.reduceBEq,reduceAdd];apply hk;clear hk k) |refine wkt rfl ?_));(try refine wk0 ?_);apply hK;clear hK K;(try dsimp only[ag,qs,qb])) |((first |refine ae ?_ |refine ac ?_);simp(disch:=decide) only[qs,qb,if_true,if_false,reduceIte]) |refine ah rfl (fun K hK=>?_) |refine ct rfl ?_ |((first |refine hK _ _ ?_ |(clear hK;refine hK _ _ ?_) |(clear hK;clear hK;refine hK _ _ ?_));clear hK;(try clear K)))
          obtain rfl:j=ys.length:=by omega
          refine⟨(k+1,rs'.set (k+ys.length) cy),?_,⟨hle',by dsimp only;omega,by simp[hr'],d9 hlt' hcy,?_⟩,by simp only;omega⟩
          · simp(disch:=omega) only[go_sem,Nat.reduceBEq,reduceAdd]
          · dsimp only
            rw[show k+1+ys.length=k+ys.length+1 by omega,bO (by omega),hi',hi,aq _ xs,List.take_of_length_le (Nat.le_refl _),Nat.add_mul,Nat.mul_assoc]
    · repeat (first |(refine rg rfl rfl (fun K hK=>?_);(repeat (first |(refine wo rfl (fun k hk=>?_);simp(disch:=omega) only[go_sem,Nat.reduceBEq,reduceAdd];apply hk;clear hk k) |refine wkt rfl ?_));(try refine wk0 ?_);apply hK;clear hK K;(try dsimp only[ag,qs,qb])) |((first |refine ae ?_ |refine ac ?_);simp(disch:=decide) only[qs,qb,if_true,if_false,reduceIte]) |refine ah rfl (fun K hK=>?_) |refine ct rfl ?_ |((first |refine hK _ _ ?_ |(clear hK;refine hK _ _ ?_) |(clear hK;clear hK;refine hK _ _ ?_));clear hK;(try clear K)))
      obtain rfl:k=xs.length:=by omega
      refine fk [.o 0,.p 0,.o 1,.o 2] rfl rfl (fun K hK=>?_);(repeat (first |(refine wo rfl (fun k hk=>?_);simp(disch:=omega) only[go_sem,Nat.reduceBEq,reduceAdd];apply hk;clear hk k) |refine wkt rfl ?_));(try refine wk0 ?_)
      refine wkp ?_;simp(disch:=omega) only[go_sem,Nat.reduceBEq,reduceAdd];intro b h2 hs2 hb;(repeat (first |(refine wo rfl (fun k hk=>?_);simp(disch:=omega) only[go_sem,Nat.reduceBEq,reduceAdd];apply hk;clear hk k) |refine wkt rfl ?_));(try refine wk0 ?_)
      have hA:Arr h2 (some ⟨b,0,none⟩) (xs.length+ys.length) rs:=.of_row (fun hne=>hb ((uw_ne _).1 hne)) (fun x hx=>by have:=hlt x hx;omega) (by omega) (by omega)
      have hval:val 65536 rs=m*n:=by
        rw[List.take_of_length_le (by omega),List.take_of_length_le (Nat.le_refl _),hm,hn] at hi
        exact hi
      refine cN rfl rfl rfl rfl (by exact nY hA hlt hr) ?_;rintro v h3 hs3 hv';(repeat (first |(refine wo rfl (fun k hk=>?_);simp(disch:=omega) only[go_sem,Nat.reduceBEq,reduceAdd];apply hk;clear hk k) |refine wkt rfl ?_));(try refine wk0 ?_)
      (try (simp(disch:=omega) only[go_sem,Nat.reduceBEq,reduceAdd]));apply hK;clear hK;(try clear K);(try dsimp only[ag,qs])
      refine ai ?_;simp(disch:=omega) only[go_sem,Nat.reduceBEq,reduceAdd]
      rwa[hval] at hv'
end Go.Q
