/-
  Contracts of package interval, and what stands on it. Conditions: each theorem's own.
-/
import Derived.Test.YtdhfkmaejkgceaaGreatDoorK944a42PkN
import Derived.Test.YtdhfkmaejkgceaaGreatDoorKd61942PkG
import Derived.Test.YtdhfkmaejkgceaaGreatDoorK2b21c9PkI
import Derived.Test.YtdhfkmaejkgceaaGreatDoorK1b250bPkM
import Derived.Test.YtdhfkmaejkgceaaGreatDoorK593d77PkL
import Derived.Test.YtdhfkmaejkgceaaGreatDoorK410931PkC
import Derived.Test.YtdhfkmaejkgceaaGreatDoorKd2878dPkA
import Derived.Maps.OwnIn
import Derived.Test.YtdhfkmaejkgceaaGreatDoorKd2ac1dPkD
set_option linter.unusedVariables false
set_option linter.unusedSimpArgs false
open Nat renaming reduceBEq→ξ,reduceAdd→ζ,le_trans→χ,mul_le_mul_right→ψ,le_refl→η,mul_le_mul→qAk,zero_le→qBh,lt_or_ge→qBj,one_mul→qBm
open Bool renaming and_eq_true→φ,false_eq_true→qAw
open List renaming length_append→qAp,mem_singleton→qBc,all_eq_true→qBd
namespace Go.Q
open Go.Proofs
set_option maxRecDepth 100000
set_option maxHeartbeats 4000000
def NS.size:NS→NS
 |.e=>.e
 |.i a b=>if 0≤(NS.i a b).slo then .i a b else if (NS.i a b).shi≤0 then (NS.i a b).minus else .i (some ((0:Int):Rat)) (jmax (a.map (-·)) b)
theorem NS.size_i {a b:Option Rat}:(NS.i a b).size=if 0≤(NS.i a b).slo then .i a b else if (NS.i a b).shi≤0 then (NS.i a b).minus else .i (some ((0:Int):Rat)) (jmax (a.map (-·)) b):=rfl
theorem NS.le.size {x:NS} {k:Nat} (hk:1≤k) (h:x.le k):x.size.le k:=by
 cases x with
 |e=>exact h
 | i a b =>
  rw[NS.size_i]
  split
  ·exact h
  ·split
   ·exact h.minus
   ·rw[NS.le_i] at h ⊢
    refine⟨fun q e=>?_,fun q e=>?_⟩
    ·cases e;exact χ (by decide) hk
    ·cases a with
     |none=>cases e
     | some a=>
      cases b with
      |none=>cases e
      |some b=>cases e;exact px (by rw[cz];exact h.1 _ rfl) (h.2 _ rfl)
theorem NS.ok_size {x:NS} (hx:x.ok):x.size.ok:=by
 cases x with
 |e=>exact hx
 | i a b =>
  rw[NS.size_i]
  split
  ·exact hx
  ·split
   ·exact NS.ok_minus hx
   ·rename_i h1 h2
    cases a with
    |none=>rfl
    | some a=>
     cases b with
     |none=>rfl
     | some b=>
      have h3:0 < b:=by
       have h2:¬sgn3 b≤0:=h2
       unfold sgn3 at h2;grind
      have h4:¬max (-a) b < ((0:Int):Rat):=by
       have:((0:Int):Rat)=0:=rfl
       rw[this];grind
      show(!decide (max (-a) b < ((0:Int):Rat)))=true
      rw[decide_eq_false h4];rfl
def NS.fin:NS→Bool
 |.e=>true
 |.i a b=>!a.isNone && !b.isNone
def RI.bo (x:RI) (b:Bool):Except Int Bool:=bif x.big then .error 1 else .ok b
theorem IsEmpty1 {h0 h:PH} [Le h0 h] {v:Value} {x:RI} {b1:Nat} {cs:List Value} (hv:Iv h0 v x) (hc:v=.agg cs.toArray) (hl:cs.length=8) (hb1:h b1=some cs.toArray):
  Bd 75 #[.pointer (some ⟨b1,0,none⟩)] h (x.bo x.set.void):=by
 subst hc
 unfold RI.bo
 cases g:x.big with
 | true=>
  dsimp only[cond_true]
  refine Spec.enter (args:=[_]) (n:=5) Tryz.func75 rfl (by kernel_rfl) rfl (by simp) [.tmp 1] rfl (fun C _=>?_)
  repeat (first |(refine wo rfl (fun k hk=>?_);simp(disch:=omega) only[go_sem,ξ,ζ];apply hk;clear hk k) |refine wkt rfl ?_ |refine wk0 ?_ |refine rg rfl rfl (fun K hK=>?_) |((first |refine ae ?_ |refine ac ?_);simp(disch:=decide) only[qs,qb,if_true,if_false,reduceIte]) |refine ah rfl (fun K hK=>?_) |refine ct rfl ?_ |((try simp(disch:=omega) only[go_sem,ξ,ζ]);(first |apply hK |(clear hK;apply hK) |(clear hK;clear hK;apply hK));clear hK;(try clear K);(try dsimp only[ag,qs,qb])))
  refine wk (fun k hk=>?_);simp(disch:=omega) only[go_sem,ξ,ζ];refine⟨cs,hl,fG hb1,?_⟩;apply hk;clear hk k;(repeat (first |(refine wo rfl (fun k hk=>?_);simp(disch:=omega) only[go_sem,ξ,ζ];apply hk;clear hk k) |refine wkt rfl ?_));(try refine wk0 ?_)
  exact cF rfl rfl rfl rfl (by exact fF hv g) (fun _ _ h=>h)
 | false=>
  dsimp only[cond_false]
  have kR:=fun {h} [Le h0 h]=>dK (h:=h) hv g
  generalize x.set=s at*
  cases s with
  | e=>
   refine Spec.enter (args:=[_]) (n:=5) Tryz.func75 rfl (by kernel_rfl) rfl (by simp) [.tmp 1] rfl (fun C _=>?_)
   repeat (first |(refine wo rfl (fun k hk=>?_);simp(disch:=omega) only[go_sem,ξ,ζ];apply hk;clear hk k) |refine wkt rfl ?_ |refine wk0 ?_ |refine rg rfl rfl (fun K hK=>?_) |((first |refine ae ?_ |refine ac ?_);simp(disch:=decide) only[qs,qb,if_true,if_false,reduceIte]) |refine ah rfl (fun K hK=>?_) |refine ct rfl ?_ |((try simp(disch:=omega) only[go_sem,ξ,ζ]);(first |apply hK |(clear hK;apply hK) |(clear hK;clear hK;apply hK));clear hK;(try clear K);(try dsimp only[ag,qs,qb])))
   refine wk (fun k hk=>?_);simp(disch:=omega) only[go_sem,ξ,ζ];refine⟨cs,hl,fG hb1,?_⟩;apply hk;clear hk k;(repeat (first |(refine wo rfl (fun k hk=>?_);simp(disch:=omega) only[go_sem,ξ,ζ];apply hk;clear hk k) |refine wkt rfl ?_));(try refine wk0 ?_)
   refine cN rfl rfl rfl rfl (by exact kR) ?_;rintro s1 h1 st1 hs1;obtain⟨_,_,_,_,_,_,_,_,_,_,_,_,_,_,_,_,rfl,hs1⟩:=hs1.ee
   repeat (first |(refine wo rfl (fun k hk=>?_);simp(disch:=omega) only[go_sem,ξ,ζ];apply hk;clear hk k) |refine wkt rfl ?_ |refine wk0 ?_ |refine rg rfl rfl (fun K hK=>?_) |((first |refine ae ?_ |refine ac ?_);simp(disch:=decide) only[qs,qb,if_true,if_false,reduceIte]) |refine ah rfl (fun K hK=>?_) |refine ct rfl ?_ |((try simp(disch:=omega) only[go_sem,ξ,ζ]);(first |apply hK |(clear hK;apply hK) |(clear hK;clear hK;apply hK));clear hK;(try clear K);(try dsimp only[ag,qs,qb])))
   refine ai ?_;simp(disch:=omega) only[go_sem,ξ,ζ]
   all_goals rfl
  | i a b=>
   have kR:=fun {h} [Le h0 h]=>(kR (h:=h)).mono (R':=fun v h'=>Sn h' v (.i a b)) (E':=NP) (fun _ _ _ k=>k) (fun _ _ _ k=>k)
   cases a<;>cases b<;>
   ·refine Spec.enter (args:=[_]) (n:=5) Tryz.func75 rfl (by kernel_rfl) rfl (by simp) [.tmp 1] rfl (fun C _=>?_)
    repeat (first |(refine wo rfl (fun k hk=>?_);simp(disch:=omega) only[go_sem,ξ,ζ];apply hk;clear hk k) |refine wkt rfl ?_ |refine wk0 ?_ |refine rg rfl rfl (fun K hK=>?_) |((first |refine ae ?_ |refine ac ?_);simp(disch:=decide) only[qs,qb,if_true,if_false,reduceIte]) |refine ah rfl (fun K hK=>?_) |refine ct rfl ?_ |((try simp(disch:=omega) only[go_sem,ξ,ζ]);(first |apply hK |(clear hK;apply hK) |(clear hK;clear hK;apply hK));clear hK;(try clear K);(try dsimp only[ag,qs,qb])))
    refine wk (fun k hk=>?_);simp(disch:=omega) only[go_sem,ξ,ζ];refine⟨cs,hl,fG hb1,?_⟩;apply hk;clear hk k;(repeat (first |(refine wo rfl (fun k hk=>?_);simp(disch:=omega) only[go_sem,ξ,ζ];apply hk;clear hk k) |refine wkt rfl ?_));(try refine wk0 ?_)
    refine cN rfl rfl rfl rfl (by exact kR) ?_;rintro s1 h1 st1 hs1;obtain⟨_,_,_,_,_,_,_,_,_,_,_,_,_,_,rfl,e1,e2⟩:=hs1.ie;(repeat (first |(refine wo rfl (fun k hk=>?_);simp(disch:=omega) only[go_sem,ξ,ζ];apply hk;clear hk k) |refine wkt rfl ?_));(try refine wk0 ?_)
    (try (simp(disch:=omega) only[go_sem,ξ,ζ]));apply hK;clear hK;(try clear K);(try dsimp only[ag,qs])
    dsimp only[Option.isNone]
    repeat (first |(refine wo rfl (fun k hk=>?_);simp(disch:=omega) only[go_sem,ξ,ζ];apply hk;clear hk k) |refine wkt rfl ?_ |refine wk0 ?_ |refine rg rfl rfl (fun K hK=>?_) |((first |refine ae ?_ |refine ac ?_);simp(disch:=decide) only[qs,qb,if_true,if_false,reduceIte]) |refine ah rfl (fun K hK=>?_) |refine ct rfl ?_ |((try simp(disch:=omega) only[go_sem,ξ,ζ]);(first |apply hK |(clear hK;apply hK) |(clear hK;clear hK;apply hK));clear hK;(try clear K);(try dsimp only[ag,qs,qb])))
    refine ai ?_;simp(disch:=omega) only[go_sem,ξ,ζ]
    all_goals rfl
theorem sI {h0 h:PH} [Le h0 h] {v:Value} {x:RI} (hv:Iv h0 v x):Spec mach 30 #[v] h (fun r _=>Br r (x.bo x.set.void)) NP:=by
 have hv0:=hv
 obtain⟨a1,m1,c1,a2,m2,c2,a3,m3,c3,a4,m4,c4,rfl,_,_⟩:=hv.sa
 refine Spec.enter (args:=[_]) (n:=8) Tryz.func30 rfl (by kernel_rfl) rfl (by simp) [.tmp 2,.tmp 3] rfl (fun C _=>?_)
 repeat (first |(refine rg rfl rfl (fun K hK=>?_);(repeat (first |(refine wo rfl (fun k hk=>?_);simp(disch:=omega) only[go_sem,ξ,ζ];apply hk;clear hk k) |refine wkt rfl ?_));(try refine wk0 ?_);apply hK;clear hK K;(try dsimp only[ag,qs,qb])) |((first |refine ae ?_ |refine ac ?_);simp(disch:=decide) only[qs,qb,if_true,if_false,reduceIte]) |refine ah rfl (fun K hK=>?_) |refine ct rfl ?_ |((first |refine hK _ _ ?_ |(clear hK;refine hK _ _ ?_) |(clear hK;clear hK;refine hK _ _ ?_));clear hK;(try clear K)))
 refine fk [.p 0,.o 0,.o 1,.o 2,.o 3,.o 4,.o 5] rfl rfl (fun K hK=>?_);(repeat (first |(refine wo rfl (fun k hk=>?_);simp(disch:=omega) only[go_sem,ξ,ζ];apply hk;clear hk k) |refine wkt rfl ?_));(try refine wk0 ?_)
 refine wkp ?_;simp(disch:=omega) only[go_sem,ξ,ζ];intro b1 h1 st1 hb1;(repeat (first |(refine wo rfl (fun k hk=>?_);simp(disch:=omega) only[go_sem,ξ,ζ];apply hk;clear hk k) |refine wkt rfl ?_));(try refine wk0 ?_)
 have hb1:=hb1 (by simp)
 refine cN rfl rfl rfl rfl (by exact tU (IsEmpty1 (hv0.to (h':=h1)) rfl rfl hb1)) ?_;rintro r3 h3 st3 hr3;obtain⟨_,_,rfl,hr3⟩:=hr3.sa;(repeat (first |(refine wo rfl (fun k hk=>?_);simp(disch:=omega) only[go_sem,ξ,ζ];apply hk;clear hk k) |refine wkt rfl ?_));(try refine wk0 ?_)
 (try (simp(disch:=omega) only[go_sem,ξ,ζ]));apply hK;clear hK;(try clear K);(try dsimp only[ag,qs])
 refine ai ?_;simp(disch:=omega) only[go_sem,ξ,ζ]
 exact hr3
set_option maxHeartbeats 8000000
theorem OwnRat_spec {h0 h:PH} [Le h0 h] {v:Value} {neg:Bool} {n d:Nat} (hv:Rw h0 v neg n d):Spec mach 76 #[v] h (fun v h'=>Rw h' v neg n d) NP:=by
 obtain⟨a,c,xs,a',c',ys,rfl,hx,hy,rfl,rfl,lx,ly⟩:=hv
 have k1:=fun {h} [Le h0 h]=>CloneA (h:=h) hx (by omega)
 have k2:=fun {h} [Le h0 h]=>CloneA (h:=h) hy (by omega)
 refine Spec.go [(1,.o [0,1,2,3,5,6,4,7,8,9])] Tryz.func76 rfl rfl (by kernel_rfl) fun C _=>?_
 try simp(maxSteps:=999999) (disch:=omega) only[go_sem,ξ,ζ]
 refine caN (by exact k1) ?_;rintro v1 h1 s1 ⟨_,_,rfl,q1⟩
 try simp(maxSteps:=999999) (disch:=omega) only[go_sem,ξ,ζ]
 refine caN (by exact k2) ?_;rintro v2 h2 s2 ⟨_,_,rfl,q2⟩
 try simp(maxSteps:=999999) (disch:=omega) only[go_sem,ξ,ζ]
 exact⟨_,_,_,_,_,_,rfl,q1.to,q2,rfl,rfl,lx,ly⟩
theorem Own_spec {h0 h:PH} [Le h0 h] {v:Value} {x:RI} (hv:Iv h0 v x):Spec mach 31 #[v] h (fun v h'=>Iv h' v x) NP:=by
 obtain⟨_,_,_,_,_,_,_,_,_,_,_,_,rfl,h1,h2⟩:=hv.sa
 have k1:=fun {h} [Le h0 h]=>OwnRat_spec (h:=h) h1
 have k2:=fun {h} [Le h0 h]=>OwnRat_spec (h:=h) h2
 refine Spec.go [(1,.o [0,1,3,4,6,7,8,9,2,5,10,11])] Tryz.func31 rfl rfl (by kernel_rfl) fun C _=>?_
 try simp(maxSteps:=999999) (disch:=omega) only[go_sem,ξ,ζ]
 refine caN (by exact k1) ?_;rintro v1 h1 s1 q1;obtain⟨_,_,_,_,_,_,_,rfl,q1⟩:=q1.sa
 try simp(maxSteps:=999999) (disch:=omega) only[go_sem,ξ,ζ]
 refine caN (by exact k2) ?_;rintro v2 h2 s2 q2;obtain⟨_,_,_,_,_,_,_,rfl,q2⟩:=q2.sa
 try simp(maxSteps:=999999) (disch:=omega) only[go_sem,ξ,ζ]
 exact Iv.mk q1.to q2 _ _
abbrev Sd1:=ByteArray×RI
def Sv (h:PH) (v:Value) (s:Sd1):Prop:=∃b1 a1 m1 c1 a2 m2 c2 b2 a3 m3 c3 a4 m4 c4 l u,v=.agg #[.string s.1,.bool b1,.slice a1 m1 c1,.slice a2 m2 c2,.bool b2,.slice a3 m3 c3,.slice a4 m4 c4,.bool l,.bool u]∧Iv h (.agg #[.bool b1,.slice a1 m1 c1,.slice a2 m2 c2,.bool b2,.slice a3 m3 c3,.slice a4 m4 c4,.bool l,.bool u]) s.2
def Boxv (h:PH) (v:Value) (l:List Sd1):Prop:=∃a c,v=.slice a l.length c∧l.length≤2^30∧∀i s,l[i]?=some s→∃ad b1 a1 m1 c1 a2 m2 c2 b2 a3 m3 c3 a4 m4 c4 e u,a=some ad∧
 (∀j v,([.string s.1,.bool b1,.slice a1 m1 c1,.slice a2 m2 c2,.bool b2,.slice a3 m3 c3,.slice a4 m4 c4,.bool e,.bool u]:List Value)[j]?=some v→h.at ((ad.add (i*9)).add j)=some v)∧
 Iv h (.agg #[.bool b1,.slice a1 m1 c1,.slice a2 m2 c2,.bool b2,.slice a3 m3 c3,.slice a4 m4 c4,.bool e,.bool u]) s.2
theorem Boxv.to {h h':PH} {v:Value} {l:List Sd1} (r:Boxv h v l) [t:Le h h']:Boxv h' v l:=by
 obtain⟨a,c,rfl,hl,k⟩:=r
 refine⟨a,c,rfl,hl,fun i s hi=>?_⟩
 obtain⟨ad,b1,a1,m1,c1,a2,m2,c2,b2,a3,m3,c3,a4,m4,c4,e,u,h1,h2,h3⟩:=k i s hi
 exact⟨ad,b1,a1,m1,c1,a2,m2,c2,b2,a3,m3,c3,a4,m4,c4,e,u,h1,fun j v hj=>t.sub.at (h2 j v hj),h3.to⟩
theorem Boxv.sa {h:PH} {v:Value} {l:List Sd1} (r:Boxv h v l):∃a m c,v=.slice a m c:=let ⟨a,c,h1,_⟩:=r;⟨a,_,c,h1⟩
theorem add_1 {a:Addr} {n j:Nat}:({block:=(a.add n).block,off:=(a.add n).off+1}:Addr).add j=(a.add n).add (j+1):=by
 unfold Addr.add
 split<;>split<;>simp_all<;>omega
def fnd (l:List Sd1) (s:ByteArray):Option Nat:=l.findIdx? fun x=>x.1.toList == s.toList
theorem Index1 {h0 h:PH} [Le h0 h] {v:Value} {x:Sd1} {s:ByteArray} {b:Nat} (hv:Sv h0 v x) (hb:h b=some #[.string s]):Spec mach 173 #[v,.pointer (some ⟨b,0,none⟩)] h (fun r _=>r=.bool (x.1.toList == s.toList)) NP:=by
 obtain⟨_,_,_,_,_,_,_,_,_,_,_,_,_,_,_,_,rfl,_⟩:=hv
 refine Spec.go [] Tryz.func173 rfl rfl (by kernel_rfl) fun C _=>?_
 try simp(maxSteps:=999999) (disch:=omega) only[go_sem,ξ,ζ]
 refine aE (aK hb) ?_
 try simp(maxSteps:=999999) (disch:=omega) only[go_sem,ξ,ζ]
theorem IndexFunc_spec {h0 h:PH} [Le h0 h] {v:Value} {l:List Sd1} {s:ByteArray} {b:Nat} (hv:Boxv h0 v l) (hb:h0 b=some #[.string s]):Spec mach 172 #[v,.func (.func 173) #[] #[.pointer (some ⟨b,0,none⟩)]] h (fun r _=>r=.int .i64 (match fnd l s with |some i=>(i:Int) |none=>-1)) NP:=by
 obtain⟨a,c,rfl,hl,k⟩:=hv
 refine Spec.go [] Tryz.func172 rfl rfl (by kernel_rfl) fun C _=>?_
 try simp(maxSteps:=999999) (disch:=omega) only[go_sem,ξ,ζ]
 refine lp [] (fun i:Nat=>⟨[(0,.v (.slice a l.length c)),(1,.v (.func (.func 173) #[] #[.pointer (some ⟨b,0,none⟩)])),(7,.v (.int .i64 l.length)),(8,.v (.int .i64 i))],[]⟩) (fun i h'=>Le h0 h'∧i≤l.length∧∀j x,j < i→l[j]?=some x→(x.1.toList == s.toList)=false) (fun i=>l.length - i) 0 ?_ ⟨inferInstance,qBh _,fun j w hj=>absurd hj (by omega)⟩ (by kernel_rfl) ?_
 ·try simp(maxSteps:=999999) (disch:=omega) only[go_sem,ξ,ζ]
  all_goals rfl
 rintro i h2 ⟨le2,hi,hj⟩
 by_cases hlt:(i:Int) < l.length
 ·obtain⟨x,hx⟩:∃x,l[i]?=some x:=⟨_,List.getElem?_eq_getElem (by omega)⟩
  obtain⟨ad,b1,a1,m1,c1,a2,m2,c2,b2,a3,m3,c3,a4,m4,c4,e,u,rfl,hat,hiv⟩:=k i x hx
  try simp(maxSteps:=999999) (disch:=omega) only[go_sem,ξ,ζ,hlt,decide_true]
  refine Exists.intro [_,_,_,_,_,_,_,_,_] (And.intro rfl (And.intro (fun j v hj=>le2.sub.at (hat j v hj)) ?_))
  try simp(maxSteps:=999999) (disch:=omega) only[go_sem,ξ,ζ]
  refine caN (by exact Index1 (h0:=h2) ⟨_,_,_,_,_,_,_,_,_,_,_,_,_,_,_,_,rfl,hiv.to⟩ (le2.sub _ _ hb)) ?_;rintro v3 h3 s3 rfl
  try simp(maxSteps:=999999) (disch:=omega) only[go_sem,ξ,ζ]
  cases e:(x.1.toList == s.toList) with
  | true=>
   have ef:fnd l s=some i:=by
    unfold fnd
    refine List.findIdx?_eq_some_iff_getElem.2 ⟨by omega,?_,fun j k=>?_⟩
    ·rw[List.getElem?_eq_getElem (by omega)] at hx
     cases hx;exact e
    ·have:=hj j _ k (List.getElem?_eq_getElem (by omega))
     simpa using this
   rw[ef]
   try simp(maxSteps:=999999) (disch:=omega) only[go_sem,ξ,ζ,e]
   all_goals rfl
  | false=>
   try simp(maxSteps:=999999) (disch:=omega) only[go_sem,ξ,ζ,e]
   dsimp only[lpE];refine⟨i+1,?_,⟨inferInstance,by omega,fun j y k hy=>?_⟩,by omega⟩
   ·try simp(maxSteps:=999999) (disch:=omega) only[go_sem,ξ,ζ]
    all_goals rfl
   ·rcases qBj j i with g |g
    ·exact hj j y g hy
    ·obtain rfl:j=i:=by omega
     rw[hx] at hy
     cases hy
     exact e
 ·have ef:fnd l s=none:=by
   unfold fnd
   refine List.findIdx?_eq_none_iff.2 fun x hx=>?_
   obtain⟨j,h⟩:=List.getElem?_of_mem hx
   have:=(List.getElem?_eq_some_iff.1 h).1
   exact hj j x (by omega) h
  rw[ef]
  try simp(maxSteps:=999999) (disch:=omega) only[go_sem,ξ,ζ,hlt,decide_false]
  all_goals rfl
theorem Index_spec {h0 h:PH} [Le h0 h] {v:Value} {l:List Sd1} {s:ByteArray} (hv:Boxv h0 v l):Spec mach 117 #[v,.string s] h (fun r _=>r=.int .i64 (match fnd l s with |some i=>(i:Int) |none=>-1)) NP:=by
 have hv0:=hv
 obtain⟨_,_,_,rfl⟩:=hv.sa
 refine Spec.go [(1,.t (.p 0 (.s [0,1,2,3] .d)))] Tryz.func117 rfl rfl (by kernel_rfl) fun C _=>?_
 try simp(maxSteps:=999999) (disch:=omega) only[go_sem,ξ,ζ]
 intro b h1 st1 hb
 try simp(maxSteps:=999999) (disch:=omega) only[go_sem,ξ,ζ]
 have hb:=hb (by simp)
 refine caN (by exact IndexFunc_spec (h0:=h1) hv0.to hb) ?_;rintro v1 h2 s2 rfl
 try simp(maxSteps:=999999) (disch:=omega) only[go_sem,ξ,ζ]
def Fnd (h:PH) (r:Value) (l:List Sd1) (s:ByteArray):Prop:=match fnd l s with
 |none=>r=.tuple #[zIv,.bool false]
 |some i=>∃v x,l[i]?=some x∧r=.tuple #[v,.bool true]∧Iv h v x.2
theorem BFind_spec {h0 h:PH} [Le h0 h] {v:Value} {l:List Sd1} {s:ByteArray} (hv:Boxv h0 v l):Spec mach 175 #[v,.string s] h (fun r h'=>Fnd h' r l s) NP:=by
 have kI:=fun {h} [Le h0 h]=>Index_spec (h:=h) (s:=s) hv
 unfold Fnd
 obtain⟨a,c,rfl,hl,k⟩:=hv
 cases e:fnd l s with
 | none=>
  rw[e] at kI
  refine Spec.go [] Tryz.func175 rfl rfl (by kernel_rfl) fun C _=>?_
  try simp(maxSteps:=999999) (disch:=omega) only[go_sem,ξ,ζ]
  refine caN (by exact kI) ?_;rintro v1 h1 s1 rfl
  try simp(maxSteps:=999999) (disch:=omega) only[go_sem,ξ,ζ]
  all_goals rfl
 | some i=>
  rw[e] at kI
  have hi:i < l.length:=(List.findIdx?_eq_some_iff_getElem.1 e).1
  obtain⟨x,hx⟩:∃x,l[i]?=some x:=⟨_,List.getElem?_eq_getElem hi⟩
  obtain⟨ad,b1,a1,m1,c1,a2,m2,c2,b2,a3,m3,c3,a4,m4,c4,f,u,rfl,hat,hiv⟩:=k i x hx
  refine Spec.go [] Tryz.func175 rfl rfl (by kernel_rfl) fun C _=>?_
  try simp(maxSteps:=999999) (disch:=omega) only[go_sem,ξ,ζ]
  refine caN (by exact kI) ?_;rintro v1 h1 s1 rfl
  try simp(maxSteps:=999999) (disch:=omega) only[go_sem,ξ,ζ]
  refine Exists.intro [_,_,_,_,_,_,_,_] (And.intro rfl (And.intro (fun j v hj=>by rw[add_1];exact s1.sub.at ((inferInstance:Le h0 h).sub.at (hat (j+1) v hj))) ?_))
  try simp(maxSteps:=999999) (disch:=omega) only[go_sem,ξ,ζ]
  refine caN (by exact Own_spec (hiv.to (h':=h1))) ?_;rintro v2 h2 s2 q2;obtain⟨_,_,_,_,_,_,_,_,_,_,_,_,rfl,q3⟩:=q2.sa
  try simp(maxSteps:=999999) (disch:=omega) only[go_sem,ξ,ζ]
  exact⟨_,_,hx,rfl,q2⟩
open Go.Proofs Go.Proofs.YtdhfkmaejkgceaaGreatDoor
open Go.ChangeShapes Go.WideShapes Go.ChangeAt Go.RowKit
section
variable {H:Type} {enc:TypeId×Value→H} {W:World} {sp:Nat→Bool} {held:Bool}
theorem list_of {α:Type} (P:Nat→α→Prop):∀n,(∀i,i < n→∃s,P i s)→∃l:List α,l.length=n∧∀i s,l[i]?=some s→P i s:=by
 intro n
 induction n with
 |zero=>exact fun _=>⟨[],rfl,fun i s h=>by simp at h⟩
 | succ n ih=>
  intro h
  obtain⟨l,hl,k⟩:=ih fun i hi=>h i (by omega)
  obtain⟨s,hs⟩:=h n (by omega)
  refine⟨l ++[s],by simp[hl],fun i t hi=>?_⟩
  rcases qBj i l.length with g |g
  ·rw[List.getElem?_append_left g] at hi;exact k i t hi
  ·have:i < (l ++[s]).length:=(List.getElem?_eq_some_iff.1 hi).1
   simp only[qAp,List.length_singleton] at this
   obtain rfl:i=l.length:=by omega
   rw[List.getElem?_append_right (η _),Nat.sub_self] at hi
   cases hi;rw[hl];exact hs
end
open Go.RowKit (Below)
section
variable {M:Mach} {C:Ctx} {n:Nat} {S:AS} {h:PH} {β:Nat→Nat} {a:Act} {w:World} {Q:Exit→AS→PH→Prop} {E:List PanicEntry→PH→Prop}
def mkN (P:Program) (T:TypeId) (sz:Nat):Bool:=match P.underlying T with
 | some (.slice e)=>match P.info? e with
  | some i=>match i.zero with
   |some v=>i.size == sz && v.cells.size == sz && decide (1≤sz) && decide (1≤i.bytes) && decide (i.bytes≤2^20)
   |none=>false
  |none=>false
 |_=>false
theorem mkN_some {P:Program} {T:TypeId} {sz:Nat} (h:mkN P T sz=true):∃e i v,P.underlying T=some (.slice e)∧P.info? e=some i∧i.zero=some v∧i.size=sz∧v.cells.size=sz∧1≤sz∧1≤i.bytes∧i.bytes≤2^20:=by
 unfold mkN at h
 split at h
 ·rename_i e he
  split at h
  ·rename_i i hi
   split at h
   ·rename_i v hv
    simp only[φ,beq_iff_eq,decide_eq_true_eq] at h
    exact⟨e,i,v,he,hi,hv,h.1.1.1.1,h.1.1.1.2,h.1.1.2,h.1.2,h.2⟩
   ·cases h
  ·cases h
 ·cases h
def appN (sz:Nat) (S:AS) (h:PH) (x y:AV) (k:AS→PH→AV→Prop):Prop:=match y with
 | .s j off m _=>off+m*sz≤(S.box j).length∧1≤m∧(((S.box j).drop off).take (m*sz)).all Value.oneCell'=true∧match x with
  |.v (.slice none 0 0)=>m≤2^26∧∀(cap:Nat) (junk:List Value),m≤cap→m*sz+junk.length=cap*sz→k (S.push (((S.box j).drop off).take (m*sz) ++junk)) h (.s S.bx.length 0 m cap)
  |.s i off' len cap=>off'=0∧len≤cap∧1≤cap∧cap*sz=(S.box i).length∧len+m≤2^26∧∀(cap':Nat) (junk:List Value),len+m≤cap'→(len+m)*sz+junk.length=cap'*sz→
    k ((S.setBox i []).push ((S.box i).take (len*sz) ++((S.box j).drop off).take (m*sz) ++junk)) h (.s S.bx.length 0 (len+m) cap')
  |_=>False
 |_=>False
theorem im_appN (g:G M C n S h β a w) {o:Oper} (hd:∀d,o.dst=some d→d < n) {x y:Operand} {T U:TypeId} {sz:Nat} (ho:o.op=.call {callee:=.builtin .append,args:=#[x,y],argTypes:=#[T,U]})
  (hU:uk M.P U=.slice) (hz:mkN M.P T sz=true) {k:AS→PH→AV→Prop} (hk:appN sz S h (S.ev x) (S.ev y) k):ImOk M C n a w o E k:=by
 obtain⟨e,i,z,hE,hi,hzero,hs,hzc,h1,hb1,hb2⟩:=mkN_some hz
 obtain⟨e',hE'⟩:=oA hU
 unfold appN at hk
 split at hk
 case h_2=>exact hk.elim
 rename_i j off m mc hy
 obtain⟨hoff,hm1,hall,hk⟩:=hk
 have hj:j < S.bx.length:=g.wf_ev (by rw[hy];rfl)
 have hyv:=g.ev_s hy
 generalize hN:((S.box j).drop off).take (m*sz)=news at hall hk
 have hl:news.length=m*sz:=by subst hN;simp;omega
 have hsrc:∀w',G M C n S h β a w'→(Builtin.firstCells sz m (.slice (some ⟨β j,off,none⟩) m mc)).run M.P w'=.ok news.toArray w':=fun w' g'=>by
  simp only[Builtin.firstCells]
  have:=run_loadCells_list (P:=M.P) (w:=w') ⟨β j,off,none⟩ news (fun q v hq=>by
   rw[gF]
   refine g'.box_get hj ?_
   rw[←hN,List.getElem?_take] at hq
   split at hq
   ·rw[List.getElem?_drop] at hq;exact hq
   ·cases hq)
  rw[hl] at this
  exact this
 have hexec:∀v,a.eval x=v→execOp a.eval o=(do pure (.value (←Builtin.append_ #[T,U] o.type #[v,.slice (some ⟨β j,off,none⟩) m mc])):Sem Next):=by
  intro v hv
  subst hv
  simp[execOp,ho,resolve,invoke,builtin,hyv]
 have hgrown:∀(base:Option Addr) (len cap:Nat) (old:List Value) (S':AS),a.eval x=.slice base len cap→cap < len+m→len+m≤2^26→old.length=len*sz→
   (∀w',G M C n S h β a w'→(Builtin.firstCells sz len (.slice base len cap)).run M.P w'=.ok old.toArray w')→G M C n S' h β a w.drew→S'.bx.length=S.bx.length→
   (∀(cap':Nat) (junk:List Value),len+m≤cap'→(len+m)*sz+junk.length=cap'*sz→k (S'.push (old ++news ++junk)) h (.s S.bx.length 0 (len+m) cap'))→ImOk M C n a w o E k:=by
  intro base len cap old S' hx hlt hroom hol hold g1 hlen hk
  have gd:=g.below (gt w)
  have c1:¬(len+m≤cap):=by omega
  have c2:¬(((len+m:Nat):Int) > IntKind.i64.max∧(i.bytes=0)):=by omega
  have c3:¬(Builtin.nextslicecap (len+m) cap*i.bytes > 2^48):=by
   have:=qAk (next_le hlt) hb2
   omega
  have⟨q,hq⟩:∃q:Nat,(Builtin.append_ #[T,U] T #[.slice base len cap,.slice (some ⟨β j,off,none⟩) m mc]).run M.P w=.ok (.slice (some ⟨w.heap.size,0,none⟩) (len+m) (len+m+q)) (w.drew.alloc (.cells (old.toArray ++news.toArray ++Builtin.zeroCells z.cells q) e)):=by
   refine⟨w.tape w.drawn (.appendCap (len+m) cap e) % (2^63 - (len+m)),?_⟩
   simp only[Builtin.append_,Sem.run_bind,run_underlying hE,run_underlying hE',Result.andThen_ok,Sem.run_pure,sizeOf,typeInfo,run_program,hi,hs,Builtin.lenOf,
    List.getElem?_toArray,List.getElem?_cons_zero,List.getElem?_cons_succ,qAw,if_false,Bool.not_false,if_true,c1,false_or,c2,c3,run_choose,Question.forced,Question.cut,World.drew_eq,run_askRoom,hold _ gd,hsrc _ gd,
    zeroValue,hzero,Nat.add_sub_cancel_left,newRow,run_newObj,World.alloc_eq,World.size_drew]
  have hjl:(Builtin.zeroCells z.cells q).toList.length=q*sz:=by simp[Builtin.zeroCells,hzc]
  obtain⟨β',b1,b2,g'⟩:=g1.push (old ++news ++(Builtin.zeroCells z.cells q).toList) e
  refine .mk hd (v:=.slice (some ⟨w.heap.size,0,none⟩) (len+m) (len+m+q)) (x:=.s S.bx.length 0 (len+m) (len+m+q)) ?_ (.inr ((gt w).alloc (by rw[World.size_drew];exact η _) _)) (β':=β') (S':=S'.push (old ++news ++(Builtin.zeroCells z.cells q).toList)) (w':=w.drew.alloc (.cells (old ++news ++(Builtin.zeroCells z.cells q).toList).toArray e)) g' (.inr ?_) ?_ (hk _ _ (by omega) (by rw[hjl,←Nat.add_mul]))
  ·have hc:old.toArray ++news.toArray ++Builtin.zeroCells z.cells q=(old ++news ++(Builtin.zeroCells z.cells q).toList).toArray:=by simp
   rw[hc] at hq
   rw[hexec _ hx]
   have hty:∀(t:TypeId) (vs:Array Value),Builtin.append_ #[T,U] t vs=Builtin.append_ #[T,U] T vs:=fun _ _=>rfl
   simp only[Sem.run_bind,hty,hq,Result.andThen_ok,Sem.run_pure]
  ·simp only[cv,←hlen,b2,World.size_drew]
  ·intro i hi;cases hi;simp[AS.push,hlen]
 split at hk
 ·rename_i hx
  obtain⟨hroom,hk⟩:=hk
  refine hgrown none 0 0 [] S (g.ev_v hx) (by omega) (by omega) (by simp) (fun w' _=>by simp[Builtin.firstCells]) (g.below (gt w)) rfl (fun cap' junk c1 c2=>?_)
  rw[Nat.zero_add] at c1 c2 ⊢
  exact hk cap' junk c1 c2
 ·rename_i i' off' len cap hx
  obtain⟨rfl,hlc,hc1,hcap,hroom,hk⟩:=hk
  have hcls:cls o.op=2:=by
   rw[ho]
   cases x with
   |const c=>cases hx
   |_=>rfl
  have hi':i' < S.bx.length:=g.wf_ev (by rw[hx];rfl)
  have hget:S.bx[i']?=some (S.box i'):=by simp[AS.box,hi']
  have hlm:len*sz≤cap*sz:=ψ _ hlc
  by_cases hle:len+m≤cap
  ·have hne:S.box i'≠[]:=fun e0=>by
    rw[e0] at hcap
    have:=ψ sz hc1
    simp at hcap;omega
   have hlm2:=ψ sz hle
   rw[Nat.add_mul] at hlm2
   obtain⟨T',hw⟩:=(g.boxes i' _ hget hne).row
   obtain⟨w',h1',h2,h3⟩:=jd (P:=M.P) news (S.box i') (len*sz) 0 w hw (by omega) hall
   have hspl:(S.box i').take (len*sz) ++news ++(S.box i').drop (len*sz+m*sz)=spl (S.box i') (len*sz) news:=by
    rw[spl_eq _ _ _ (by omega),hl]
   have hkj:=hk cap ((S.box i').drop (len*sz+m*sz)) hle (by simp[Nat.add_mul];omega)
   rw[hspl] at hkj
   have g1:=g.setBox hget hne (cs':=spl (S.box i') (len*sz) news) (by rw[sm]) (by simpa using h2) h3
   obtain⟨β',b1,g'⟩:=g1.move (i:=i') (cs:=spl (S.box i') (len*sz) news) (by simp[AS.setBox,hi'])
   have hset:(S.setBox i' (spl (S.box i') (len*sz) news)).setBox i' []=S.setBox i' []:=by simp[AS.setBox]
   have hlen:(S.setBox i' (spl (S.box i') (len*sz) news)).bx.length=S.bx.length:=by simp[AS.setBox]
   rw[hset] at g'
   rw[hlen] at b1
   refine .mk hd (v:=.slice (some ⟨β i',0,none⟩) (len+m) cap) (x:=.s S.bx.length 0 (len+m) cap) (w':=w') ?_ (.inl hcls) g' (.inr (by simp[cv,b1])) (fun q hq=>by cases hq;simp[AS.push,AS.setBox]) hkj
   rw[hexec _ (g.ev_s hx)]
   have hst:(storeCells ((⟨β i',0,none⟩:Addr).add (len*sz)) news).run M.P w=.ok () w':=by simpa[gF] using h1'
   simp only[Builtin.append_,Sem.run_bind,run_underlying hE,run_underlying hE',Result.andThen_ok,Sem.run_pure,sizeOf,typeInfo,run_program,hi,hs,Builtin.lenOf,
    List.getElem?_toArray,List.getElem?_cons_zero,List.getElem?_cons_succ,qAw,if_false,Bool.not_false,if_true,hle,hsrc _ g,hst]
  ·refine hgrown (some ⟨β i',0,none⟩) len cap ((S.box i').take (len*sz)) (S.setBox i' []) (g.ev_s hx) (by omega) hroom (by simp;omega) (fun w' g'=>?_) ((g.below (gt w)).kill i') (by simp[AS.setBox]) hk
   simp only[Builtin.firstCells]
   have hl2:((S.box i').take (len*sz)).length=len*sz:=by simp;omega
   have:=run_loadCells_list (P:=M.P) (w:=w') ⟨β i',0,none⟩ ((S.box i').take (len*sz)) (fun j v hj=>by
    rw[gF]
    refine g'.box_get hi' ?_
    rw[List.getElem?_take] at hj
    split at hj
    ·simpa using hj
    ·cases hj)
   rw[hl2] at this
   exact this
 ·exact hk.elim
theorem RWc_tail {ops:Array Oper} {Q Q':Exit→Act→World→Prop} {r:List Nat} (hp:∀e a w,e≠.normal→Q' e a w→Q e a w) (hl:LetsOut Q'→LetsOut Q) (hn:∀a w,Q' .normal a w→RWc M.P ops Q r a w):∀(l:List Nat) (a:Act) (w:World),RWc M.P ops Q' l a w→RWc M.P ops Q (l ++r) a w:=by
 intro l
 induction l with
 |nil=>intro a w hq;exact hn a w hq
 | cons i l ih=>
  intro a w hq
  show RWc M.P ops Q (i :: (l ++r)) a w
  simp only[RWc] at hq ⊢
  split at hq
  ·exact hq
  ·rename_i o ho
   by_cases hw:Region.wanted o (yielded ops a.tmps)=true
   ·rw[if_pos hw] at hq ⊢
    by_cases hc:cls o.op=0
    ·rw[if_pos hc] at hq ⊢
     obtain⟨v,h1,h2⟩:=hq
     exact⟨v,h1,ih _ _ h2⟩
    ·rw[if_neg hc] at hq ⊢
     have hq:=nf (K':=fun a' w'=>(cls o.op=2∨Below w.heap.size w w')∧RWc M.P ops Q (l ++r) a' w') (fun a' w' h=>⟨h.1,ih _ _ h.2⟩) hq
     unfold Oper.wp at hq ⊢
     generalize(execOp a.eval o).run M.P w=r at hq
     cases r with
     | ok n w'=>
      cases n<;>simp only[Oper.upon] at hq ⊢<;>first
       |exact hq
       |exact Calls.mono hq (fun e w'' he=>by cases e<;>first |exact he |exact hp _ _ _ (by simp) he |exact hl he)
     |halt x w'=>cases x<;>simp only[Oper.upon] at hq ⊢<;>first |exact hq |exact hp _ _ _ (by simp) hq
   ·rw[if_neg hw] at hq ⊢
    exact ih _ _ hq
theorem RWc_app {ops:Array Oper} {l1 l2:List GX} {d:Nat} {x y:Operand} {T U V:TypeId} {ps:String} {ar:Array Edge} {sz:Nat} (pl1:List PL) (i:Nat) (pl2:List PL) (hi:nth ops.toList i=some ⟨some d,.call {callee:=.builtin .append,args:=#[x,y],argTypes:=#[T,U]},V,ps,ar,none⟩)
  (hU:uk M.P U=.slice) (hz:mkN M.P T sz=true) (hd:d < n) (h1:prep n ops pl1=some l1) (h2:prep n ops pl2=some l2)
  (hw:walk M E l1 (fun S h=>appN sz S h (S.ev x) (S.ev y) fun S h v=>walk M E l2 (fun S h=>Q .normal S h) (S.put (some d) v) h) S h) (g:G M C n S h β a w):RWc M.P ops (LQ M n C Q E) (order pl1 ++i :: order pl2) a w:=by
 refine RWc_tail (Q':=LQ M n C (qs (fun S h=>appN sz S h (S.ev x) (S.ev y) fun S h v=>walk M E l2 (fun S h=>Q .normal S h) (S.put (some d) v) h) Q) E) (fun e a w he hq=>?_) ?_ (fun a w hq=>?_) _ _ _ (fx pl1 l1 S h β a w h1 hw g)
 ·cases e with
  |normal=>exact(he rfl).elim
  |panic ch=>exact hq
  |outgrown=>exact hq
  |_=>exact hq
 ·unfold LetsOut
  exact fun h=>h
 ·obtain⟨S1,h1',β1,g1,hk⟩:=hq
  rw[Bp] at hi
  dsimp only[qs] at hk
  rw[jP hi (by simp only[cls];cases nilB _<;>decide),if_pos (nI rfl _)]
  have:=im_appN (E:=E) g1 (o:=⟨some d,.call {callee:=.builtin .append,args:=#[x,y],argTypes:=#[T,U]},V,ps,ar,none⟩) (fun k hk=>by cases hk;exact hd) rfl hU hz hk (LQ M n C Q E) (fun ch h' w' hf he=>⟨g1.defers,h',hf,he⟩)
  exact nf (fun a' w' ⟨h1,S',h',x,β',g',hk⟩=>⟨h1,fx pl2 l2 _ h' β' a' w' h2 hk g'⟩) this
theorem AWP_app {id:Nat} {ops:Array Oper} {l1 l2:List GX} {d:Nat} {x y:Operand} {T U V:TypeId} {ps:String} {ar:Array Edge} {sz:Nat} (pl1:List PL) (i:Nat) (pl2:List PL) (hi:nth ops.toList i=some ⟨some d,.call {callee:=.builtin .append,args:=#[x,y],argTypes:=#[T,U]},V,ps,ar,none⟩)
  (hU:uk M.P U=.slice) (hz:mkN M.P T sz=true) (hord:order pl1 ++i :: order pl2=List.range ops.size) (hd:d < n) (h1:prep n ops pl1=some l1) (h2:prep n ops pl2=some l2)
  (hw:walk M E l1 (fun S h=>appN sz S h (S.ev x) (S.ev y) fun S h v=>walk M E l2 (fun S h=>Q .normal S h) (S.put (some d) v) h) S h):AWP M n C (.region id ops false) Q E S h:=
 fun β a w g=>eK (by rw[←hord];exact RWc_app pl1 i pl2 hi hU hz hd h1 h2 hw g)
end
def RowOf {α:Type} (sz:Nat) (Q:List Value→α→Prop) (row:List Value) (l:List α):Prop:=l.length*sz≤row.length∧∀(i:Nat) (s:α),l[i]?=some s→Q ((row.drop (i*sz)).take sz) s
theorem RowOf.nil {α:Type} {sz:Nat} {Q:List Value→α→Prop} {row:List Value}:RowOf sz Q row []:=⟨by simp,fun i s h=>by simp at h⟩
theorem RowOf.mono {α:Type} {sz:Nat} {Q Q':List Value→α→Prop} {row:List Value} {l:List α} (h:RowOf sz Q row l) (k:∀cs s,Q cs s→Q' cs s):RowOf sz Q' row l:=⟨h.1,fun i s e=>k _ _ (h.2 i s e)⟩
theorem RowOf.app {α:Type} {sz:Nat} {Q:List Value→α→Prop} {row:List Value} {l:List α} (h:RowOf sz Q row l) {cs:List Value} {s:α} (hl:cs.length=sz) (q:Q cs s) (junk:List Value):RowOf sz Q (row.take (l.length*sz) ++cs ++junk) (l ++[s]):=by
 have h1:=h.1
 have e1:(row.take (l.length*sz)).length=l.length*sz:=by simp;omega
 refine⟨by simp[Nat.add_mul];omega,fun i t hi=>?_⟩
 rcases qBj i l.length with g |g
 ·rw[List.getElem?_append_left g] at hi
  have hm:(i+1)*sz≤l.length*sz:=ψ _ g
  rw[Nat.add_mul,qBm] at hm
  have:=h.2 i t hi
  rw[List.append_assoc,List.drop_append_of_le_length (by omega),List.take_append_of_le_length (by simp;omega),List.drop_take,List.take_take,Nat.min_eq_left (by omega)]
  exact this
 ·have:i < (l ++[s]).length:=(List.getElem?_eq_some_iff.1 hi).1
  simp only[qAp,List.length_singleton] at this
  obtain rfl:i=l.length:=by omega
  rw[List.getElem?_append_right (η _),Nat.sub_self] at hi
  cases hi
  rw[List.append_assoc,List.drop_append_of_le_length (by omega),List.drop_take,Nat.sub_self,List.take_zero,List.nil_append,←hl,List.take_append_of_le_length (η _),List.take_length]
  exact q
theorem RowOf.ld {α:Type} {sz:Nat} {Q:List Value→α→Prop} {row:List Value} {l:List α} (h:RowOf sz Q row l) {i:Nat} {s:α} (hi:l[i]?=some s):ldb (some sz) row (i*sz)=some (.agg ((row.drop (i*sz)).take sz).toArray):=by
 have h1:=h.1
 have g:i < l.length:=(List.getElem?_eq_some_iff.1 hi).1
 have hm:(i+1)*sz≤l.length*sz:=ψ _ g
 rw[Nat.add_mul,qBm] at hm
 show(bif Nat.ble (i*sz+sz) row.length then _ else _)=_
 rw[Nat.ble_eq_true_of_le (by omega)]
 rfl
theorem at_off {h:PH} {b:Nat} {cs:Array Value} (hb:h b=some cs) (n j:Nat):h.at (((⟨b,0,none⟩:Addr).add n).add j)=cs[n+j]?:=by
 have e:((⟨b,0,none⟩:Addr).add n).add j=⟨b,n+j,none⟩:=by
  unfold Addr.add
  split<;>split<;>simp_all
 rw[e]
 simp[PH.at,hb]
open Go.RowKit
theorem Has.kept {A B:World} {h:PH} (hh:Has A h) {row:Option Nat} (hg:A.grownBy B row) (hr:∀r,row=some r→h r=none):Has B h:=fun b cs hx=>by
 obtain⟨T,f,hw⟩:=hh b cs hx
 exact⟨T,f,(hg.block b (Array.getElem?_eq_some_iff.1 hw).1 (fun e=>by rw[hr b e.symm] at hx;cases hx)).trans hw⟩
section
variable {α:Type} {w:World} {h0:PH} {B:Nat} {T E:TypeId} {sz:Nat} {Q:PH→List Value→α→Prop} {R:List (Nat×Array Value×TypeId)} {l:List α} {hp:PH} {v:Value} {W:World}
theorem bx_cell {W:World} {b:Nat} {cs:Array Value} {t:TypeId} {f:Nat×Nat} (h:W.heap[b]?=some (.cells cs t f)) (i:Nat):W.cell? ⟨b,i,none⟩=cs[i]?:=by
 simp[World.cell?,h]
theorem new_cells {W:World} {n:Nat} (hn:n=W.heap.size) (cs:Array Value) (t:TypeId):∀j u,cs.toList[j]?=some u→(W.alloc (.cells cs t)).cell? ((⟨n,0,none⟩:Addr).add j)=some u:=fun j u hu=>by
 subst hn
 have e:((⟨W.heap.size,0,none⟩:Addr).add j)=⟨W.heap.size,j,none⟩:=by
  unfold Addr.add
  split<;>simp_all
 rw[e,bx_cell (World.alloc_heap_new W _)]
 simpa using hu
theorem post_ret {w':World} {h:PH} {R':Value→PH→Prop} {e:Ending} (p:Post w h R' NP e w'):∃u h',e=.returned u∧Below w.heap.size w w'∧Has w' h'∧Sub h h'∧New w.heap.size h h'∧R' u h':=by
 cases e with
 |returned u=>obtain⟨h',q⟩:=p;exact⟨u,h',rfl,q⟩
 |panicked ch=>obtain⟨_,_,_,_,_,p⟩:=p;exact(p:False).elim
 |outgrown=>exact(p:False).elim
end
namespace NS
def lo0:NS→Rat
 |.e=>0
 |.i a _=>a.getD 0
def hi0:NS→Rat
 |.e=>0
 |.i _ b=>b.getD 0
def loN:NS→Bool
 |.e=>false
 |.i a _=>a.isNone
def hiN:NS→Bool
 |.e=>false
 |.i _ b=>b.isNone
end NS
def Rr (h:PH) (v:Value) (x:NS):Prop:=∃b1 x1 y1 b2 x2 y2,v=.agg #[.bool b1,x1,y1,.bool b2,x2,y2,.bool x.loN,.bool x.hiN,.bool x.void]∧Qr h (.agg #[.bool b1,x1,y1]) x.lo0∧Qr h (.agg #[.bool b2,x2,y2]) x.hi0
theorem Rr.to {h h':PH} {v:Value} {x:NS} (r:Rr h v x) [Le h h']:Rr h' v x:=let ⟨a,b,c,d,e,f,h1,h2,h3⟩:=r;⟨a,b,c,d,e,f,h1,h2.to,h3.to⟩
theorem Rr.sa {h:PH} {v:Value} {x:NS} (r:Rr h v x):∃b1 a1 m1 c1 a2 m2 c2 b2 a3 m3 c3 a4 m4 c4,v=.agg #[.bool b1,.slice a1 m1 c1,.slice a2 m2 c2,.bool b2,.slice a3 m3 c3,.slice a4 m4 c4,.bool x.loN,.bool x.hiN,.bool x.void]∧
  Qr h (.agg #[.bool b1,.slice a1 m1 c1,.slice a2 m2 c2]) x.lo0∧Qr h (.agg #[.bool b2,.slice a3 m3 c3,.slice a4 m4 c4]) x.hi0:=by
 obtain⟨b1,x1,y1,b2,x2,y2,rfl,h1,h2⟩:=r
 obtain⟨_,_,_,_,_,_,_,e1,_⟩:=h1.sa
 obtain⟨_,_,_,_,_,_,_,e2,_⟩:=h2.sa
 simp only[Value.agg.injEq,Array.mk.injEq,List.cons.injEq,and_true] at e1 e2
 obtain⟨_,rfl,rfl⟩:=e1
 obtain⟨_,rfl,rfl⟩:=e2
 exact⟨_,_,_,_,_,_,_,_,_,_,_,_,_,_,rfl,h1,h2⟩
theorem HY:sz 0≤1:=by decide
theorem eZ {h0 h:PH} [Le h0 h] {v:Value} {x:RI} (hv:Iv h0 v x):Spec mach 34 #[v] h (fun r _=>r=.bool x.big) NP:=by
 obtain⟨a1,m1,c1,a2,m2,c2,a3,m3,c3,a4,m4,c4,rfl,hx,hy⟩:=hv.sa
 have k1:=fun {h} [Le h0 h]=>jJ (h:=h) hx
 have k2:=fun {h} [Le h0 h]=>jJ (h:=h) hy
 unfold RI.big
 obtain⟨l1,e1⟩:∃b,decide (lg x.n1 x.a1 x.d1)=b:=⟨_,rfl⟩
 obtain⟨l2,e2⟩:∃b,decide (lg x.n2 x.a2 x.d2)=b:=⟨_,rfl⟩
 rw[e1] at k1 ⊢
 rw[e2] at k2 ⊢
 cases l1 with
 | true=>
  refine Spec.go [] Tryz.func34 rfl rfl (by kernel_rfl) fun C _=>?_
  try simp(maxSteps:=999999) (disch:=omega) only[go_sem,ξ,ζ]
  refine caN (by exact k1) ?_;rintro v1 h1 s1 rfl
  try simp(maxSteps:=999999) (disch:=omega) only[go_sem,ξ,ζ]
  all_goals rfl
 | false=>
  refine Spec.go [] Tryz.func34 rfl rfl (by kernel_rfl) fun C _=>?_
  try simp(maxSteps:=999999) (disch:=omega) only[go_sem,ξ,ζ]
  refine caN (by exact k1) ?_;rintro v1 h1 s1 rfl
  try simp(maxSteps:=999999) (disch:=omega) only[go_sem,ξ,ζ]
  refine caN (by exact k2) ?_;rintro v2 h2 s2 rfl
  try simp(maxSteps:=999999) (disch:=omega) only[go_sem,ξ,ζ]
def R1 (h:PH) (r:Value):Out→Prop
 |.error e=>r=.tuple #[.agg #[.bool false,.slice none 0 0,.slice none 0 0,.bool false,.slice none 0 0,.slice none 0 0,.bool false,.bool false,.bool false],.int .i64 e]
 |.ok x=>∃u,r=.tuple #[u,.int .i64 0]∧Rr h u x
theorem e8 {h0 h:PH} [Le h0 h] {v:Value} {x:RI} {p:Int} (hv:Iv h0 v x) (g:x.big=true):Spec mach 166 #[v,.int .i64 p] h (fun r h'=>R1 h' r (.error 1)) NP:=by
 have hv0:=hv
 have kl:=fun {h} [Le h0 h]=>eZ (h:=h) hv
 rw[g] at kl
 obtain⟨a1,m1,c1,a2,m2,c2,a3,m3,c3,a4,m4,c4,rfl,hx,hy⟩:=hv.sa
 refine Spec.go [] Tryz.func166 rfl rfl (by kernel_rfl) fun C _=>?_
 try simp(maxSteps:=999999) (disch:=omega) only[go_sem,ξ,ζ]
 refine caN (by exact kl) ?_;rintro v1 h1 s1 rfl
 try simp(maxSteps:=999999) (disch:=omega) only[go_sem,ξ,ζ]
 all_goals rfl
theorem R1.err {h:PH} {r:Value} {e:Int} (k:R1 h r (.error e)):r=.tuple #[.agg #[.bool false,.slice none 0 0,.slice none 0 0,.bool false,.slice none 0 0,.slice none 0 0,.bool false,.bool false,.bool false],.int .i64 e]:=k
theorem R1.ok {h:PH} {r:Value} {x:NS} (k:R1 h r (.ok x)):∃b1 a1 m1 c1 a2 m2 c2 b2 a3 m3 c3 a4 m4 c4,r=.tuple #[.agg #[.bool b1,.slice a1 m1 c1,.slice a2 m2 c2,.bool b2,.slice a3 m3 c3,.slice a4 m4 c4,.bool x.loN,.bool x.hiN,.bool x.void],.int .i64 0]∧Rr h (.agg #[.bool b1,.slice a1 m1 c1,.slice a2 m2 c2,.bool b2,.slice a3 m3 c3,.slice a4 m4 c4,.bool x.loN,.bool x.hiN,.bool x.void]) x:=by
 obtain⟨u,rfl,k⟩:=k
 have k0:=k
 obtain⟨_,_,_,_,_,_,_,_,_,_,_,_,_,_,rfl,_,_⟩:=k.sa
 exact⟨_,_,_,_,_,_,_,_,_,_,_,_,_,_,rfl,k0⟩
namespace NS
def clo:NS→Rat
 |.e=>1
 |.i a _=>a.getD 0
def chi:NS→Rat
 |.e=>0
 |.i _ b=>b.getD 0
theorem le_c {k:Nat} {x:NS} (hk:1≤k) (h:x.le k):sz x.clo≤k∧sz x.chi≤k:=by
 have h0:sz 0≤k:=χ HY hk
 have h1:sz 1≤k:=χ (by decide) hk
 cases x with
 |e=>exact⟨h1,h0⟩
 | i a b=>
  rw[le_i] at h
  refine⟨?_,?_⟩
  ·cases a with
   |none=>exact h0
   |some a=>exact h.1 _ rfl
  ·cases b with
   |none=>exact h0
   |some b=>exact h.2 _ rfl
end NS
theorem Cv.fl {h:PH} {v:Value} {x:NS} (r:Cv h v x):∃b1 a1 m1 c1 a2 m2 c2 b2 a3 m3 c3 a4 m4 c4,v=.agg #[.bool b1,.slice a1 m1 c1,.slice a2 m2 c2,.bool b2,.slice a3 m3 c3,.slice a4 m4 c4,.bool x.loN,.bool x.hiN]∧
  Cn h (.agg #[.bool b1,.slice a1 m1 c1,.slice a2 m2 c2]) x.clo∧Cn h (.agg #[.bool b2,.slice a3 m3 c3,.slice a4 m4 c4]) x.chi:=by
 have r0:=r
 obtain⟨b1,x1,y1,b2,x2,y2,rfl,h1,h2⟩:=r
 obtain⟨_,_,_,_,_,_,_,e1,_⟩:=h1.sa
 obtain⟨_,_,_,_,_,_,_,e2,_⟩:=h2.sa
 simp only[Value.agg.injEq,Array.mk.injEq,List.cons.injEq,and_true] at e1 e2
 obtain⟨_,rfl,rfl⟩:=e1
 obtain⟨_,rfl,rfl⟩:=e2
 cases x with
 |e=>exact⟨_,_,_,_,_,_,_,_,_,_,_,_,_,_,rfl,h1,h2⟩
 |i a b=>exact⟨_,_,_,_,_,_,_,_,_,_,_,_,_,_,rfl,h1,h2⟩
def NS.ri (x:NS):RI:=⟨decide (x.clo.num < 0),x.clo.num.natAbs,if x.clo.den=1 then 0 else x.clo.den,decide (x.chi.num < 0),x.chi.num.natAbs,if x.chi.den=1 then 0 else x.chi.den,x.loN,x.hiN⟩
theorem Cv.iv {h:PH} {v:Value} {x:NS} (r:Cv h v x) (hf:x.le 2048):Iv h v x.ri:=by
 obtain⟨b1,a1,m1,c1,a2,m2,c2,b2,a3,m3,c3,a4,m4,c4,rfl,h1,h2⟩:=r.fl
 have hs:=NS.le_c (by decide) hf
 exact Iv.mk (h1.rw (χ hs.1 (by decide))) (h2.rw (χ hs.2 (by decide))) _ _
theorem NS.ri_big {x:NS} (hf:x.le 2048):x.ri.big=false:=by
 have hs:=NS.le_c (by decide) hf
 unfold RI.big NS.ri
 dsimp only
 have h1:¬lg (decide (x.clo.num < 0)) x.clo.num.natAbs (if x.clo.den=1 then 0 else x.clo.den):=by rw[lg_cn];omega
 have h2:¬lg (decide (x.chi.num < 0)) x.chi.num.natAbs (if x.chi.den=1 then 0 else x.chi.den):=by rw[lg_cn];omega
 simp only[h1,h2,decide_false,Bool.or_self]
theorem NS.ri_set {x:NS} (hx:x.ok):x.ri.set=x:=by
 unfold RI.set RI.lo RI.hi NS.ri
 dsimp only
 rw[jA,jA]
 cases x with
 |e=>simp[NS.loN,NS.hiN,NS.clo,NS.chi,NS.mk',ordO,show decide ((0:Rat) < 1)=true by decide]
 |i a b=>cases a<;>cases b<;>simp[NS.loN,NS.hiN,NS.clo,NS.chi,NS.mk']<;>simp[NS.ok] at hx<;>simp[hx]<;>rfl
open Go.RowKit
section
variable {F:Fence} {n:Nat} {P:Program} {ops:Array Oper} {Q:Exit→Act→World→Prop}
def stepOk (ops:Array Oper) (listed:Array Bool) (i:Nat):Bool:=Region.noSelect ops && closedB ops listed && takeOk ops listed i && (Region.ready .any ops listed).contains i && match ops[i]? with
 |some o=>o.guard.isNone
 |none=>false
theorem tkR (i:Nat) {oi:Oper} {v:Value} {fuel:Nat} {listed:Array Bool} {a:Act} {w:World} (hro:F.round=none) (hi:ops[i]?=some oi) (hc:stepOk ops listed i=true)
  (hQ:∀c a w,Q (.panic c) (a.put oi.dst v) w→Q (.panic c) a w) (hab:∀w',oi.about P w' a.eval=none) (hy:∀w',Below w.heap.size w w'→(execOp a.eval oi).run P w'=.ok (.value v) w')
  (h:wpAnyB F n P ops Q fuel (listed.setIfInBounds i true) (a.put oi.dst v) w):wpAnyB F n P ops Q (fuel+1) listed a w:=by
 unfold stepOk at hc
 rw[hi] at hc
 simp only[φ] at hc
 exact takeB hro hi hc.1.1.1.1 hc.1.1.1.2 hc.1.1.2 hc.1.2 hQ ⟨.inl ⟨by simp only[Region.wanted,Option.isNone_iff_eq_none.1 hc.2],hy⟩,hab⟩ h
def RdP (P:Program) (ops:Array Oper) (o:Oper) (v:Value) (a:Act):Prop:=Region.wanted o (yielded ops a.tmps)=true∧(∀w',(execOp a.eval o).run P w'=.ok (.value v) w')∧∀w',o.about P w' a.eval=none
theorem RdP.f {o:Oper} {v:Value} {a:Act} (h:RdP P ops o v a) (w:World):RdF P ops o v a w:=⟨.inl ⟨h.1,fun w' _=>h.2.1 w'⟩,h.2.2⟩
theorem wpOpIn_putP {j:Nat} {oi oj:Oper} {v:Value} (hro:F.round=none) (hj:ops[j]?=some oj) (hap:oi.apart ops oj=true)
  (hsi:∀cs b,oi.op≠.select cs b) (hsj:∀cs b,oj.op≠.select cs b)
  (hQ:∀c a w,Q (.panic c) (a.put oi.dst v) w→Q (.panic c) a w) {K:Act→World→Prop} {a:Act} {w:World}
  (hy:RdP P ops oi v a) (h:wpOpIn F n P ops Q j K (a.put oi.dst v) w):wpOpIn F n P ops Q j (fun a' w'=>RdP P ops oi v a'∧K (a'.put oi.dst v) w') a w:=by
 obtain⟨h1,h2,h3⟩:=Oper.apart_spec hap
 have keep:∀(a:Act),RdP P ops oi v a→∀u,RdP P ops oi v (a.put oj.dst u):=fun a hy u=>
  ⟨(wanted_put oi a oj.dst u h3).trans hy.1,fun w'=>by rw[execOp_put oi hsi a oj.dst u h3];exact hy.2.1 w',fun w'=>by rw[about_put oi w' a oj.dst u h3];exact hy.2.2 w'⟩
 have keepD:∀d,RdP P ops oi v {a with defers:=d :: a.defers}:=fun d=>hy
 unfold wpOpIn at*
 simp only[hj] at*
 rw[wanted_put oj a oi.dst v h1,about_put oj w a oi.dst v h1] at h
 split
 ·rename_i hw
  simp only[hw,if_true] at h
  unfold Oper.wpIn at*
  rw[about_put oj w a oi.dst v h1] at h
  refine⟨h.1,?_⟩
  have h:=h.2
  rw[hro,Oper.semAt_none,execOp_put oj hsj a oi.dst v h1] at h
  rw[hro,Oper.semAt_none]
  generalize(execOp a.eval oj).run P w=r at*
  cases r with
  | ok x w'=>
   cases x<;>simp only[Oper.uponIn] at h ⊢
   case value u=>exact⟨keep a hy u,by rw[←Act.put_comm a v u h2];exact h⟩
   case skip=>exact⟨keep a hy _,by rw[←Act.put_comm a v undef h2];exact h⟩
   case defer d=>
    refine⟨keep _ (keepD d) _,?_⟩
    rw[←Act.put_comm _ v undef h2,←Act.put_defers]
    exact h
   case enter f args=>
    refine⟨h.1,CallsIn.mono h.2 fun e w'' he=>?_⟩
    cases e with
    |returned u=>exact⟨keep a hy u,by rw[←Act.put_comm a v u h2];exact he⟩
    |panicked c=>exact hQ _ _ _ he
    |outgrown=>exact he
   case row row args=>exact⟨h.1,RowsIn.mono h.2 fun u w'' he=>⟨keep a hy u,by rw[←Act.put_comm a v u h2];exact he⟩⟩
   case round l f tmps assign body=>
    refine⟨h.1,RoundIn.mono h.2 fun e w'' he=>?_⟩
    cases e with
    |returned u=>exact⟨keep a hy u,by rw[←Act.put_comm a v u h2];exact he⟩
    |panicked c=>exact hQ _ _ _ he
    |outgrown=>exact he
  | halt x w'=>
   cases x<;>simp only[Oper.uponIn] at h ⊢
   case panic u=>exact hQ _ _ _ h
 ·rename_i hw
  simp only[hw] at h
  exact⟨h.1,keep a hy _,by rw[←Act.put_comm a v undef h2];exact h.2⟩
def takeOkP (ops:Array Oper) (listed:Array Bool) (i:Nat):Bool:=
 (List.range ops.size).all fun j=>listed.getD j false || j == i || ((bF ops ops.size).getD j 0).testBit i || match ops[i]?,ops[j]? with
  |some oi,some oj=>oi.apart ops oj
  |_,_=>true
theorem wpAnyP_first {i:Nat} {oi:Oper} {v:Value} (hro:F.round=none) (hi:ops[i]?=some oi) (hsel:∀(j:Nat) (o:Oper) cs b,ops[j]?=some o→o.op≠.select cs b)
    (hQ:∀c a w,Q (.panic c) (a.put oi.dst v) w→Q (.panic c) a w):
    ∀ (fuel:Nat) (listed:Array Bool) (a:Act) (w:World),listed.size=ops.size→(∀j,listed.getD j false=true→∀x,bE ops j x=true→listed.getD x false=true)→takeOkP ops listed i=true→
      i∈Region.ready .any ops listed→RdP P ops oi v a→
      wpAnyB F n P ops Q fuel (listed.setIfInBounds i true) (a.put oi.dst v) w→wpAnyB F n P ops Q (fuel+1) listed a w:=by
  intro fuel
  induction fuel with
  | zero=>
    intro listed a w hs hcl ht hr hy H
    refine⟨fun h=>(by rw[h] at hr;cases hr),fun j hj=>?_⟩
    by_cases hji:j=i
    · subst hji;exact(hy.f w).wpOpIn hro hi ⟨.inr (.inr (Below.refl _ _)),H⟩
    · have:=ready_mono hj hji
      rw[H.1] at this
      cases this
  | succ fuel ih=>
    intro listed a w hs hcl ht hr hy H
    refine⟨fun h=>(by rw[h] at hr;cases hr),fun j hj=>?_⟩
    by_cases hji:j=i
    · subst hji;exact(hy.f w).wpOpIn hro hi ⟨.inr (.inr (Below.refl _ _)),H⟩
    · have h1:=H.2 j (ready_mono hj hji)
      obtain⟨hjl,hj0,hjp⟩:=(iO hs).1 hj
      obtain⟨hil,hi0,hip⟩:=(iO hs).1 hr
      have hoj:ops[j]?=some ops[j]:=by simp[hjl]
      have hm:((bF ops ops.size).getD j 0).testBit i=false:=by
        cases hb:((bF ops ops.size).getD j 0).testBit i with
        |false=>rfl
        | true=>
          have:=po hcl (nX _ j i hjl hb) hjp
          rw[hi0] at this;cases this
      have hk:=qBd.1 ht j (List.mem_range.2 hjl)
      simp only[hj0,hm,hi,hoj,Bool.false_or,Bool.or_eq_true,beq_iff_eq,hji,false_or] at hk
      have hk:=hk.resolve_left (by decide)
      have h2:=wpOpIn_putP hro hoj hk (fun cs b=>hsel i oi cs b hi) (fun cs b=>hsel j _ cs b hoj) hQ hy h1
      refine wpOpIn_mono (fun a' w' k=>⟨k.2.1,ih (listed.setIfInBounds j true) a' w' (by simpa using hs) (fun y hy x hx=>?_) ?_ (ready_mono hr (Ne.symm hji)) k.1 ?_⟩) h2
      · by_cases e:j=y
        · subst e;exact getD_set_true (hjp x hx)
        · rw[getD_set_ne false e] at hy
          exact getD_set_true (hcl y hy x hx)
      · refine qBd.2 fun y hy=>?_
        have:=qBd.1 ht y hy
        by_cases e:j=y
        · subst e
          have:(listed.setIfInBounds j true).getD j false=true:=by simp[hs,hjl]
          simp[this]
        · rw[getD_set_ne false e];exact this
      · rw[Array.setIfInBounds_comm _ _ hji]
        exact k.2.2
def stepOkP (ops:Array Oper) (listed:Array Bool) (i:Nat):Bool:=Region.noSelect ops && closedB ops listed && takeOkP ops listed i && (Region.ready .any ops listed).contains i && match ops[i]? with
 |some o=>o.guard.isNone
 |none=>false
theorem tkP (i:Nat) {oi:Oper} {v:Value} {fuel:Nat} {listed:Array Bool} {a:Act} {w:World} (hro:F.round=none) (hi:ops[i]?=some oi) (hc:stepOkP ops listed i=true)
  (hQ:∀c a w,Q (.panic c) (a.put oi.dst v) w→Q (.panic c) a w) (hab:∀w',oi.about P w' a.eval=none) (hy:∀w',(execOp a.eval oi).run P w'=.ok (.value v) w')
  (h:wpAnyB F n P ops Q fuel (listed.setIfInBounds i true) (a.put oi.dst v) w):wpAnyB F n P ops Q (fuel+1) listed a w:=by
 unfold stepOkP at hc
 rw[hi] at hc
 simp only[φ] at hc
 have hc2:=hc.1.1.1.2
 unfold closedB at hc2
 rw[φ,beq_iff_eq,qBd] at hc2
 refine wpAnyP_first hro hi (Region.noSelect_spec hc.1.1.1.1) hQ fuel listed a w hc2.1 (fun j hj x hx=>?_) hc.1.1.2 (by simpa using hc.1.2) ⟨by simp only[Region.wanted,Option.isNone_iff_eq_none.1 hc.2],hy,hab⟩ h
 cases ho:ops[j]? with
 |none=>simp[bE,ho] at hx
 | some o=>
  have hlt:j < ops.size:=(Array.getElem?_eq_some_iff.1 ho).1
  have:=hc2.2 j (List.mem_range.2 hlt)
  rw[hj,ho] at this
  simp only[bE,ho] at hx
  obtain⟨e,he,hb⟩:=Array.any_eq_true'.1 hx
  simp only[φ,beq_iff_eq] at hb
  have h6:=Array.all_eq_true_iff_forall_mem.1 this e he
  rw[hb.1] at h6
  rw[←hb.2];simpa using h6
theorem tpOne (i:Nat) {oi:Oper} {fuel:Nat} {listed:Array Bool} {a:Act} {w:World} (hi:ops[i]?=some oi) (hg:oi.guard=none) (hr:Region.ready .any ops listed=[i])
  (h:∀K:Act→World→Prop,(∀a' w',(clsAt ops i=2∨pinB ops i=true∨Below w.heap.size w w')∧wpAnyB F n P ops Q fuel (listed.setIfInBounds i true) a' w'→K a' w')→oi.wpIn F n P a w K Q):wpAnyB F n P ops Q (fuel+1) listed a w:=
 readyB hr (by simp) fun j hj=>by
  obtain rfl:=qBc.1 hj
  refine stepB hi fun K hK=>?_
  rw[if_pos (by simp only[Region.wanted,hg])]
  exact h K hK
theorem tp2 (i j:Nat) {oi oj:Oper} {fuel:Nat} {listed:Array Bool} {a:Act} {w:World} (hi:ops[i]?=some oi) (hj:ops[j]?=some oj) (hg:oi.guard=none) (hg':oj.guard=none) (hr:Region.ready .any ops listed=[i,j])
  (h:∀K:Act→World→Prop,(∀a' w',(clsAt ops i=2∨pinB ops i=true∨Below w.heap.size w w')∧wpAnyB F n P ops Q fuel (listed.setIfInBounds i true) a' w'→K a' w')→oi.wpIn F n P a w K Q)
  (h':∀K:Act→World→Prop,(∀a' w',(clsAt ops j=2∨pinB ops j=true∨Below w.heap.size w w')∧wpAnyB F n P ops Q fuel (listed.setIfInBounds j true) a' w'→K a' w')→oj.wpIn F n P a w K Q):wpAnyB F n P ops Q (fuel+1) listed a w:=
 readyB hr (by simp) fun x hx=>by
  rcases List.mem_cons.1 hx with rfl |hx
  ·refine stepB hi fun K hK=>?_
   rw[if_pos (by simp only[Region.wanted,hg])]
   exact h K hK
  ·obtain rfl:=qBc.1 hx
   refine stepB hj fun K hK=>?_
   rw[if_pos (by simp only[Region.wanted,hg'])]
   exact h' K hK
end
theorem wpIn_store_box {F:Fence} {n:Nat} {M:Mach} {P:Program} (hP:M.P=P) {w:World} {o:Oper} {a:Act} {K:Act→World→Prop} {Q:Exit→Act→World→Prop} (b off:Nat) (vs:List Value) (cs:Array Value) {T Tb:TypeId} {x y:Operand} {t:Option Nat}
  (ho:o.op=.store T x y) (hx:a.eval x=.pointer (some ⟨b,off,none⟩)) (hy:(a.eval y).cells=vs.toArray) (ht:tk M.P T=some t) (hsz:bT t=vs.length) (hall:vs.all Value.oneCell'=true) (hb:w.heap[b]?=some (.cells cs Tb (0,0))) (hle:off+vs.length≤cs.size)
  (h:∀w',w'.heap[b]?=some (.cells (spl cs.toList off vs).toArray Tb (0,0))→w.grownBy w' (some b)→K (a.put o.dst undef) w'):o.wpIn F n P a w K Q:=by
 subst hP
 have hs:(sizeOf T).run M.P w=.ok (bT t) w:=by
  cases t with
  |none=>exact(wH ht w).2
  |some m=>exact(tT ht w).2
 obtain⟨w',h1,h2,h3⟩:=jd (P:=M.P) vs cs.toList off 0 w (by simpa using hb) (by simpa using hle) hall
 unfold Oper.wpIn
 refine⟨by simp[Oper.about,ho],?_⟩
 rw[Oper.semAt_plain F _ _ (by rw[ho];intro c hc';cases hc')]
 have hrun:(execOp a.eval o).run M.P w=.ok .skip w':=by
  simp only[execOp,ho,Instr.storeAt,Instr.sureAddr,hx,Sem.run_bind,Sem.run_pure,Result.andThen_ok,storeVar,hs,hsz,hy]
  simp[h1]
 rw[hrun]
 exact h w' (by simpa using h2) ⟨h3.os,h3.tape,h3.output,Nat.le_of_eq h3.size.symm,fun k _ hk=>h3.other k (fun e=>hk (by rw[e]))⟩
structure Mx (W:World) (hp:PH) (WB off r n:Nat) (g cp:Nat→Nat) (M:Nat→Nat→RI):Prop where
 has:Has W hp
 outer:∀i,i < r→W.cell? ⟨WB,off+i,none⟩=some (.slice (some ⟨g i,0,none⟩) n (cp i))
 row:∀i,i < r→∃(cs:List Value) (T:TypeId),W.heap[g i]?=some (.cells cs.toArray T (0,0))∧n*8≤cs.length∧∀j,j < n→Iv hp (.agg ((cs.drop (j*8)).take 8).toArray) (M i j)
 priv:∀i,i < r→hp (g i)=none∧g i≠WB
 inj:∀i j,i < r→j < r→g i=g j→i=j
section
variable {W:World} {hp:PH} {WB off r n:Nat} {g cp:Nat→Nat} {M:Nat→Nat→RI}
theorem Mx.lt (m:Mx W hp WB off r n g cp M) {i:Nat} (hi:i < r):g i < W.heap.size:=by
 obtain⟨cs,T,h,_⟩:=m.row i hi
 exact(Array.getElem?_eq_some_iff.1 h).1
theorem Mx.up (m:Mx W hp WB off r n g cp M) {h':PH} {W':World} (hs:Sub hp h') (hh:Has W' h') (hb:Below W.heap.size W W') (hn:New W.heap.size hp h'):Mx W' h' WB off r n g cp M:=by
 haveI:Le hp h':=⟨hs⟩
 refine⟨hh,fun i hi=>?_,fun i hi=>?_,fun i hi=>⟨?_,(m.priv i hi).2⟩,m.inj⟩
 ·have h:=m.outer i hi
  exact(hb.cell (p:=⟨WB,off+i,none⟩) (World.block_lt_of_cell? W _ h)).trans h
 ·obtain⟨cs,T,h1,h2,h3⟩:=m.row i hi
  exact⟨cs,T,(hb.block _ (Array.getElem?_eq_some_iff.1 h1).1).trans h1,h2,fun j hj=>(h3 j hj).to⟩
 ·cases e:h' (g i) with
  |none=>rfl
  | some cs=>
   rcases hn (g i) (by rw[e];simp) with k |k
   ·exact absurd (m.priv i hi).1 k
   ·have:=m.lt hi;omega
theorem Mx.entry (m:Mx W hp WB off r n g cp M) {i j:Nat} (hi:i < r) (hj:j < n):∃(b1:Bool) (a1:Option Addr) (m1 k1:Nat) (a2:Option Addr) (m2 k2:Nat) (b2:Bool) (a3:Option Addr) (m3 k3:Nat) (a4:Option Addr) (m4 k4:Nat) (e1 e2:Bool),
  (∀(t:Nat) u,([.bool b1,.slice a1 m1 k1,.slice a2 m2 k2,.bool b2,.slice a3 m3 k3,.slice a4 m4 k4,.bool e1,.bool e2]:List Value)[t]?=some u→W.cell? ⟨g i,j*8+t,none⟩=some u)∧Iv hp (.agg #[.bool b1,.slice a1 m1 k1,.slice a2 m2 k2,.bool b2,.slice a3 m3 k3,.slice a4 m4 k4,.bool e1,.bool e2]) (M i j):=by
 obtain⟨cs,T,h1,h2,h3⟩:=m.row i hi
 have h4:=h3 j hj
 have h5:=h4
 obtain⟨a1,m1,c1,a2,m2,c2,a3,m3,c3,a4,m4,c4,e,_,_⟩:=h4.sa
 rw[e] at h5
 have e:(cs.drop (j*8)).take 8=_:=congrArg Array.toList (Value.agg.inj e)
 refine⟨_,_,_,_,_,_,_,_,_,_,_,_,_,_,_,_,fun t u hu=>?_,h5⟩
 rw[bx_cell h1,List.getElem?_toArray]
 have hu:((cs.drop (j*8)).take 8)[t]?=some u:=by rw[e];exact hu
 rw[List.getElem?_take] at hu
 split at hu
 ·rw[List.getElem?_drop] at hu
  exact hu
 ·cases hu
theorem spl_drop:∀(vs cs:List Value) (o t:Nat),o+vs.length≤cs.length→(spl cs o vs)[t]?=if o≤t∧t < o+vs.length then vs[t - o]? else cs[t]?:=by
  intro vs
  induction vs with
  |nil=>intro cs o t _;simp only[spl,List.length_nil,Nat.add_zero];rw[if_neg (by omega)]
  | cons v vs ih=>
    intro cs o t hl
    simp only[List.length_cons] at hl
    rw[spl,ih _ _ _ (by simp;omega)]
    by_cases h1:t=o
    · subst h1
      rw[if_neg (by omega),if_pos (by simp),List.getElem?_set_self (by omega)]
      simp
    · by_cases h2:o≤t∧t < o+(v :: vs).length
      · simp only[List.length_cons] at h2
        rw[if_pos (by omega),if_pos (by simp;omega),show t - o=(t - (o+1))+1 by omega,List.getElem?_cons_succ]
      · simp only[List.length_cons] at h2
        rw[if_neg (by omega),if_neg (by simp;omega),List.getElem?_set_ne (by omega)]
theorem spl_len:∀(vs cs:List Value) (o:Nat),(spl cs o vs).length=cs.length:=by
 intro vs
 induction vs with
 |nil=>intro cs o;rfl
 |cons v vs ih=>intro cs o;rw[spl,ih];simp
theorem Mx.set (m:Mx W hp WB off r n g cp M) {i j:Nat} (hi:i < r) (hj:j < n) {W':World} {cs vs:List Value} {T:TypeId} {x:RI} (h1:W.heap[g i]?=some (.cells cs.toArray T (0,0))) (hv:vs.length=8) (hx:Iv hp (.agg vs.toArray) x)
    (h2:W'.heap[g i]?=some (.cells (spl cs (j*8) vs).toArray T (0,0))) (hg:W.grownBy W' (some (g i))):Mx W' hp WB off r n g cp (fun a b=>if a=i∧b=j then x else M a b):=by
  obtain⟨cs',T',k1,k2,k3⟩:=m.row i hi
  rw[h1] at k1
  obtain⟨rfl,rfl⟩:cs=cs'∧T=T':=by simpa using k1
  have hj8:j*8+8≤cs.length:=by omega
  refine⟨m.has.kept hg (fun r e=>by cases e;exact(m.priv i hi).1),fun a ha=>?_,fun a ha=>?_,m.priv,m.inj⟩
  · exact hg.cell (a:=⟨WB,off+a,none⟩) (m.outer a ha) (fun e=>(m.priv i hi).2 (Option.some.inj e).symm)
  · by_cases e:a=i
    · subst e
      refine⟨_,_,h2,by rw[spl_len];exact k2,fun b hb=>?_⟩
      have ex:((spl cs (j*8) vs).drop (b*8)).take 8=if b=j then vs else (cs.drop (b*8)).take 8:=by
        refine List.ext_getElem? fun t=>?_
        rw[List.getElem?_take]
        by_cases ht:t < 8
        · rw[if_pos ht,List.getElem?_drop,spl_drop _ _ _ _ (by omega),hv]
          by_cases hbj:b=j
          · subst hbj
            rw[if_pos (by omega),if_pos rfl,show b*8+t - b*8=t by omega]
          · rw[if_neg (by omega),if_neg hbj,List.getElem?_take,if_pos ht,List.getElem?_drop]
        · rw[if_neg ht]
          by_cases hbj:b=j
          · rw[if_pos hbj,List.getElem?_eq_none (by omega)]
          · rw[if_neg hbj,List.getElem?_take,if_neg ht]
      rw[ex]
      by_cases hbj:b=j
      · rw[if_pos hbj,if_pos ⟨rfl,hbj⟩];exact hx
      · rw[if_neg hbj,if_neg (fun h=>hbj h.2)];exact k3 b hb
    · obtain⟨cs2,T2,q1,q2,q3⟩:=m.row a ha
      refine⟨cs2,T2,(hg.block _ (Array.getElem?_eq_some_iff.1 q1).1 (fun h=>e (m.inj a i ha hi (Option.some.inj h)))).trans q1,q2,fun b hb=>?_⟩
      rw[if_neg (fun h=>e h.1)];exact q3 b hb
end
inductive Pt where
 |fin (q:Rat)
 |inf (up:Bool)
def Pt.mul:Pt→Pt→Pt
 |.fin p,.fin q=>.fin (p*q)
 |.inf u,.fin q=>if q=0 then .fin 0 else .inf (u == decide (0 < q))
 |.fin p,.inf u=>if p=0 then .fin 0 else .inf (u == decide (0 < p))
 |.inf u,.inf w=>.inf (u == w)
def Pt.le (k:Nat):Pt→Prop
 |.fin q=>sz q≤k
 |.inf _=>True
def Pt.side:Pt→Int
 |.fin _=>0
 |.inf u=>if u=true then 1 else -1
@[reducible] def Pt.num:Pt→Option Rat
 |.fin q=>some q
 |.inf _=>none
def Ev (h:PH) (v:Value) (z:Pt):Prop:=∃b x y,v=.agg #[.bool b,x,y,.int .i64 z.side]∧En h b x y z.num
theorem Ev.to {h h':PH} {v:Value} {z:Pt} (r:Ev h v z) [Le h h']:Ev h' v z:=let ⟨a,b,c,h1,h2⟩:=r;⟨a,b,c,h1,h2.to⟩
theorem Ev.sa {h:PH} {v:Value} {z:Pt} (r:Ev h v z):∃b a1 m1 c1 a2 m2 c2,v=.agg #[.bool b,.slice a1 m1 c1,.slice a2 m2 c2,.int .i64 z.side]∧En h b (.slice a1 m1 c1) (.slice a2 m2 c2) z.num:=by
 obtain⟨b,x,y,rfl,h1⟩:=r
 obtain⟨_,_,_,_,_,_,rfl,rfl⟩:=h1.sl
 exact⟨_,_,_,_,_,_,_,rfl,h1⟩
theorem BJ {q:Rat}:sgn3 q= -1∨sgn3 q=0∨sgn3 q=1:=by unfold sgn3;grind
theorem sgn3_zero {q:Rat}:sgn3 q=0↔q=0:=by unfold sgn3;grind
theorem yB {q:Rat}:0 < sgn3 q↔0 < q:=by unfold sgn3;grind
theorem pc {h0 h:PH} [Le h0 h] {v w:Value} {x y:Pt} (hv:Ev h0 v x) (hw:Ev h0 w y) (lx:x.le (2^30)) (ly:y.le (2^30)):Spec mach 191 #[v,w] h (fun r h'=>Ev h' r (x.mul y)) NP:=by
 obtain⟨b,a1,m1,c1,a2,m2,c2,rfl,e1⟩:=hv.sa
 obtain⟨b',a1',m1',c1',a2',m2',c2',rfl,e2⟩:=hw.sa
 cases x with
 | fin p =>
  cases y with
  | fin q=>
   show Spec _ _ _ _ (fun r h'=>Ev h' r (.fin (p*q))) _
   dsimp only[Pt.side] at*
   have k1:=fun {h} [Le h0 h]=>dv (h:=h) e1.num
   have k2:=fun {h} [Le h0 h]=>dv (h:=h) e2.num
   by_cases hp:p=0∨q=0
   ·have e0:p*q=((0:Int):Rat):=by rcases hp with rfl |rfl<;>simp<;>rfl
    have hs:sgn3 p=0∨sgn3 q=0:=by rw[sgn3_zero,sgn3_zero];exact hp
    rw[e0]
    generalize sgn3 p=m at*
    generalize sgn3 q=n at*
    by_cases hm:m=0
    ·refine Spec.go [] Tryz.func191 rfl rfl (by kernel_rfl) fun C _=>?_
     simp(disch:=omega) only[go_sem,ξ,ζ,Int.toNat_one,Nat.zero_mul,qBm,Nat.zero_add,List.set_cons_zero,List.set_cons_succ]
     refine caN (by exact k1) ?_;rintro v1 h1 s1 rfl
     simp(disch:=omega) only[go_sem,ξ,ζ,Int.toNat_one,Nat.zero_mul,qBm,Nat.zero_add,List.set_cons_zero,List.set_cons_succ]
     refine caN (by exact k2) ?_;rintro v2 h2 s2 rfl
     simp(disch:=omega) only[go_sem,ξ,ζ,Int.toNat_one,Nat.zero_mul,qBm,Nat.zero_add,List.set_cons_zero,List.set_cons_succ]
     refine caN (by exact cB (n:=0) (by decide) (by decide)) ?_;rintro _ h3 _ f3;obtain⟨_,_,_,_,_,_,_,rfl,f3⟩:=f3.sa
     simp(disch:=omega) only[go_sem,ξ,ζ,Int.toNat_one,Nat.zero_mul,qBm,Nat.zero_add,List.set_cons_zero,List.set_cons_succ]
     exact⟨_,_,_,rfl,En.of f3⟩
    ·have hn:n=0:=hs.resolve_left hm
     refine Spec.go [] Tryz.func191 rfl rfl (by kernel_rfl) fun C _=>?_
     simp(disch:=omega) only[go_sem,ξ,ζ,Int.toNat_one,Nat.zero_mul,qBm,Nat.zero_add,List.set_cons_zero,List.set_cons_succ]
     refine caN (by exact k1) ?_;rintro v1 h1 s1 rfl
     simp(disch:=omega) only[go_sem,ξ,ζ,Int.toNat_one,Nat.zero_mul,qBm,Nat.zero_add,List.set_cons_zero,List.set_cons_succ]
     refine caN (by exact k2) ?_;rintro v2 h2 s2 rfl
     simp(disch:=omega) only[go_sem,ξ,ζ,Int.toNat_one,Nat.zero_mul,qBm,Nat.zero_add,List.set_cons_zero,List.set_cons_succ]
     refine caN (by exact cB (n:=0) (by decide) (by decide)) ?_;rintro _ h3 _ f3;obtain⟨_,_,_,_,_,_,_,rfl,f3⟩:=f3.sa
     simp(disch:=omega) only[go_sem,ξ,ζ,Int.toNat_one,Nat.zero_mul,qBm,Nat.zero_add,List.set_cons_zero,List.set_cons_succ]
     exact⟨_,_,_,rfl,En.of f3⟩
   ·have hm:¬sgn3 p=0:=by rw[sgn3_zero];exact fun k=>hp (.inl k)
    have hn:¬sgn3 q=0:=by rw[sgn3_zero];exact fun k=>hp (.inr k)
    generalize sgn3 p=m at*
    generalize sgn3 q=n at*
    refine Spec.go [] Tryz.func191 rfl rfl (by kernel_rfl) fun C _=>?_
    simp(disch:=omega) only[go_sem,ξ,ζ,Int.toNat_one,Nat.zero_mul,qBm,Nat.zero_add,List.set_cons_zero,List.set_cons_succ]
    refine caN (by exact k1) ?_;rintro v1 h1 s1 rfl
    simp(disch:=omega) only[go_sem,ξ,ζ,Int.toNat_one,Nat.zero_mul,qBm,Nat.zero_add,List.set_cons_zero,List.set_cons_succ]
    refine caN (by exact k2) ?_;rintro v2 h2 s2 rfl
    simp(disch:=omega) only[go_sem,ξ,ζ,Int.toNat_one,Nat.zero_mul,qBm,Nat.zero_add,List.set_cons_zero,List.set_cons_succ]
    refine caN (by exact wU (e1.num.to (h':=h2)) (e2.num.to (h':=h2)) (up36 lx) (up36 ly)) ?_;rintro _ h3 _ f3;obtain⟨_,_,_,_,_,_,_,rfl,f3⟩:=f3.sa
    simp(disch:=omega) only[go_sem,ξ,ζ,Int.toNat_one,Nat.zero_mul,qBm,Nat.zero_add,List.set_cons_zero,List.set_cons_succ]
    exact⟨_,_,_,rfl,En.of f3⟩
  | inf u =>
   have k1:=fun {h} [Le h0 h]=>dv (h:=h) e1.num
   dsimp only[Pt.mul]
   have hb:=BJ (q:=p)
   by_cases hp:p=0
   ·have hm:=sgn3_zero.2 hp
    rw[if_pos hp]
    rw[hm] at k1
    cases u<;>
    ·dsimp only[Pt.side] at*
     simp only[if_true,if_false,qAw,reduceIte]
     refine Spec.go [] Tryz.func191 rfl rfl (by kernel_rfl) fun C _=>?_
     simp(disch:=omega) only[go_sem,ξ,ζ,Int.toNat_one,Nat.zero_mul,qBm,Nat.zero_add,List.set_cons_zero,List.set_cons_succ]
     refine caN (by exact k1) ?_;rintro v1 h1 s1 rfl
     simp(disch:=omega) only[go_sem,ξ,ζ,Int.toNat_one,Nat.zero_mul,qBm,Nat.zero_add,List.set_cons_zero,List.set_cons_succ]
     refine caN (by exact cB (n:=0) (by decide) (by decide)) ?_;rintro _ h3 _ f3;obtain⟨_,_,_,_,_,_,_,rfl,f3⟩:=f3.sa
     simp(disch:=omega) only[go_sem,ξ,ζ,Int.toNat_one,Nat.zero_mul,qBm,Nat.zero_add,List.set_cons_zero,List.set_cons_succ]
     exact⟨_,_,_,rfl,En.of f3⟩
   ·have hm:sgn3 p≠0:=fun k=>hp (sgn3_zero.1 k)
    rw[if_neg hp]
    have hpos:=yB (q:=p)
    rcases hb with hb |hb |hb
    ·have h2:decide (0 < p)=false:=decide_eq_false (fun k=>by have:=hpos.2 k;omega)
     rw[h2]
     rw[hb] at k1
     cases u<;>
     ·dsimp only[Pt.side] at*
      simp only[if_true,if_false,qAw,reduceIte]
      refine Spec.go [] Tryz.func191 rfl rfl (by kernel_rfl) fun C _=>?_
      simp(disch:=omega) only[go_sem,ξ,ζ,Int.toNat_one,Nat.zero_mul,qBm,Nat.zero_add,List.set_cons_zero,List.set_cons_succ]
      refine caN (by exact k1) ?_;rintro v1 h1 s1 rfl
      simp(disch:=omega) only[go_sem,ξ,ζ,Int.toNat_one,Nat.zero_mul,qBm,Nat.zero_add,List.set_cons_zero,List.set_cons_succ]
      exact⟨_,_,_,rfl,En.nil _⟩
    ·exact(hm hb).elim
    ·have h2:decide (0 < p)=true:=decide_eq_true (hpos.1 (by omega))
     rw[h2]
     rw[hb] at k1
     cases u<;>
     ·dsimp only[Pt.side] at*
      simp only[if_true,if_false,qAw,reduceIte]
      refine Spec.go [] Tryz.func191 rfl rfl (by kernel_rfl) fun C _=>?_
      simp(disch:=omega) only[go_sem,ξ,ζ,Int.toNat_one,Nat.zero_mul,qBm,Nat.zero_add,List.set_cons_zero,List.set_cons_succ]
      refine caN (by exact k1) ?_;rintro v1 h1 s1 rfl
      simp(disch:=omega) only[go_sem,ξ,ζ,Int.toNat_one,Nat.zero_mul,qBm,Nat.zero_add,List.set_cons_zero,List.set_cons_succ]
      exact⟨_,_,_,rfl,En.nil _⟩
 | inf u =>
  cases y with
  | fin p =>
   have k1:=fun {h} [Le h0 h]=>dv (h:=h) e2.num
   dsimp only[Pt.mul]
   have hb:=BJ (q:=p)
   by_cases hp:p=0
   ·have hm:=sgn3_zero.2 hp
    rw[if_pos hp]
    rw[hm] at k1
    cases u<;>
    ·dsimp only[Pt.side] at*
     simp only[if_true,if_false,qAw,reduceIte]
     refine Spec.go [] Tryz.func191 rfl rfl (by kernel_rfl) fun C _=>?_
     simp(disch:=omega) only[go_sem,ξ,ζ,Int.toNat_one,Nat.zero_mul,qBm,Nat.zero_add,List.set_cons_zero,List.set_cons_succ]
     refine caN (by exact k1) ?_;rintro v1 h1 s1 rfl
     simp(disch:=omega) only[go_sem,ξ,ζ,Int.toNat_one,Nat.zero_mul,qBm,Nat.zero_add,List.set_cons_zero,List.set_cons_succ]
     refine caN (by exact cB (n:=0) (by decide) (by decide)) ?_;rintro _ h3 _ f3;obtain⟨_,_,_,_,_,_,_,rfl,f3⟩:=f3.sa
     simp(disch:=omega) only[go_sem,ξ,ζ,Int.toNat_one,Nat.zero_mul,qBm,Nat.zero_add,List.set_cons_zero,List.set_cons_succ]
     exact⟨_,_,_,rfl,En.of f3⟩
   ·have hm:sgn3 p≠0:=fun k=>hp (sgn3_zero.1 k)
    rw[if_neg hp]
    have hpos:=yB (q:=p)
    rcases hb with hb |hb |hb
    ·have h2:decide (0 < p)=false:=decide_eq_false (fun k=>by have:=hpos.2 k;omega)
     rw[h2]
     rw[hb] at k1
     cases u<;>
     ·dsimp only[Pt.side] at*
      simp only[if_true,if_false,qAw,reduceIte]
      refine Spec.go [] Tryz.func191 rfl rfl (by kernel_rfl) fun C _=>?_
      simp(disch:=omega) only[go_sem,ξ,ζ,Int.toNat_one,Nat.zero_mul,qBm,Nat.zero_add,List.set_cons_zero,List.set_cons_succ]
      refine caN (by exact k1) ?_;rintro v1 h1 s1 rfl
      simp(disch:=omega) only[go_sem,ξ,ζ,Int.toNat_one,Nat.zero_mul,qBm,Nat.zero_add,List.set_cons_zero,List.set_cons_succ]
      exact⟨_,_,_,rfl,En.nil _⟩
    ·exact(hm hb).elim
    ·have h2:decide (0 < p)=true:=decide_eq_true (hpos.1 (by omega))
     rw[h2]
     rw[hb] at k1
     cases u<;>
     ·dsimp only[Pt.side] at*
      simp only[if_true,if_false,qAw,reduceIte]
      refine Spec.go [] Tryz.func191 rfl rfl (by kernel_rfl) fun C _=>?_
      simp(disch:=omega) only[go_sem,ξ,ζ,Int.toNat_one,Nat.zero_mul,qBm,Nat.zero_add,List.set_cons_zero,List.set_cons_succ]
      refine caN (by exact k1) ?_;rintro v1 h1 s1 rfl
      simp(disch:=omega) only[go_sem,ξ,ζ,Int.toNat_one,Nat.zero_mul,qBm,Nat.zero_add,List.set_cons_zero,List.set_cons_succ]
      exact⟨_,_,_,rfl,En.nil _⟩
  | inf w=>
   dsimp only[Pt.mul]
   cases u<;>cases w<;>
   ·dsimp only[Pt.side] at*
    simp only[if_true,if_false,qAw,reduceIte]
    refine Spec.go [] Tryz.func191 rfl rfl (by kernel_rfl) fun C _=>?_
    simp(disch:=omega) only[go_sem,ξ,ζ,Int.toNat_one,Nat.zero_mul,qBm,Nat.zero_add,List.set_cons_zero,List.set_cons_succ]
    exact⟨_,_,_,rfl,En.nil _⟩
def lowP:Option Rat→Pt
 |none=>.inf false
 |some q=>.fin q
def highP:Option Rat→Pt
 |none=>.inf true
 |some q=>.fin q
theorem y8 {h0 h:PH} [Le h0 h] {v:Value} {a b:Option Rat} (hv:Sn h0 v (.i a b)):Spec mach 190 #[v] h (fun r h'=>∃b1 a1 m1 c1 a2 m2 c2 b2 a3 m3 c3 a4 m4 c4,r=.agg #[.bool b1,.slice a1 m1 c1,.slice a2 m2 c2,.int .i64 (lowP a).side,.bool b2,.slice a3 m3 c3,.slice a4 m4 c4,.int .i64 (highP b).side]∧
  Ev h' (.agg #[.bool b1,.slice a1 m1 c1,.slice a2 m2 c2,.int .i64 (lowP a).side]) (lowP a)∧Ev h' (.agg #[.bool b2,.slice a3 m3 c3,.slice a4 m4 c4,.int .i64 (highP b).side]) (highP b)) NP:=by
 obtain⟨b1,a1,m1,c1,a2,m2,c2,b2,a3,m3,c3,a4,m4,c4,rfl,h1,h2⟩:=hv.ie
 cases a<;>cases b<;>
 ·dsimp only[Option.isNone]
  refine Spec.go [] Tryz.func190 rfl rfl (by kernel_rfl) fun C _=>?_
  simp(disch:=omega) only[go_sem,ξ,ζ,Int.toNat_one,Nat.zero_mul,qBm,Nat.zero_add,List.set_cons_zero,List.set_cons_succ]
  exact⟨_,_,_,_,_,_,_,_,_,_,_,_,_,_,rfl,⟨_,_,_,rfl,h1.to⟩,⟨_,_,_,rfl,h2.to⟩⟩
def stp (o:NS×Bool×Bool):Pt→NS×Bool×Bool
 |.fin q=>(o.1.joined (.i (some q) (some q)),o.2.1,o.2.2)
 |.inf true=>(o.1,o.2.1,true)
 |.inf false=>(o.1,true,o.2.2)
def inn (x y1 y2:Pt) (o:NS×Bool×Bool):Nat→NS×Bool×Bool
 |0=>o
 |1=>stp o (x.mul y1)
 |_+2=>stp (stp o (x.mul y1)) (x.mul y2)
def fin3 (o:NS×Bool×Bool):NS:=
 match o.1 with
 |.e=>.i (bif o.2.1 then none else some 0) (bif o.2.2 then none else some 0)
 |.i l h=>.i (bif o.2.1 then none else l) (bif o.2.2 then none else h)
def outer (x1 x2 y1 y2:Pt):Nat→NS×Bool×Bool
 |0=>(.e,false,false)
 |1=>inn x1 y1 y2 (.e,false,false) 2
 |_+2=>inn x2 y1 y2 (inn x1 y1 y2 (.e,false,false) 2) 2
def NS.prod:NS→NS→NS
 |.i a b,.i c d=>fin3 (outer (lowP a) (highP b) (lowP c) (highP d) 2)
 |_,_=>.e
theorem Pt.mul_comm (x y:Pt):x.mul y=y.mul x:=by
 cases x with
 | fin p=>cases y with
  |fin q=>show Pt.fin (p*q)=.fin (q*p);rw[Rat.mul_comm]
  |inf u=>rfl
 | inf u=>cases y with
  |fin q=>rfl
  |inf w=>show Pt.inf (u == w)=.inf (w == u);cases u<;>cases w<;>rfl
def NS.pts (k:Nat) (o:NS×Bool×Bool):Prop:=o.1.ok∧o.1.le k∧(o.1=.e∨∃a b,o.1=.i (some a) (some b))
theorem le_pt {q:Rat} {k:Nat} (h:sz q≤k):(NS.i (some q) (some q)).le k:=by
 rw[NS.le_i];exact⟨fun _ e=>by cases e;exact h,fun _ e=>by cases e;exact h⟩
theorem le_jn {x y:NS} {k:Nat} (hx:x.le k) (hy:y.le k):(x.joined y).le k:=by
 cases x with
 |e=>cases y<;>exact hy
 | i a b =>
  cases y with
  |e=>exact hx
  | i c d=>
   rw[NS.le_i] at hx hy
   show NS.le k (.i (jmin a c) (jmax b d))
   rw[NS.le_i]
   refine⟨fun q e=>?_,fun q e=>?_⟩
   ·cases a with
    |none=>cases e
    | some a=>
     cases c with
     |none=>cases e
     |some c=>cases e;exact py (hx.1 _ rfl) (hy.1 _ rfl)
   ·cases b with
    |none=>cases e
    | some b=>
     cases d with
     |none=>cases e
     |some d=>cases e;exact px (hx.2 _ rfl) (hy.2 _ rfl)
theorem ja {k:Nat} {o:NS×Bool×Bool} {z:Pt} (ho:NS.pts k o) (hz:z.le k):NS.pts k (stp o z):=by
 obtain⟨s,l,u⟩:=o
 cases z with
 |inf u=>cases u<;>exact ho
 | fin q=>
  have hq:(NS.i (some q) (some q)).ok:=by simp[NS.ok,ordO]
  refine⟨NS.ok_joined ho.1 hq,le_jn ho.2.1 (le_pt hz),.inr ?_⟩
  rcases ho.2.2 with e |⟨a,b,e⟩
  ·cases(e:s=.e);exact⟨q,q,rfl⟩
  ·cases(e:s=.i _ _);exact⟨min a q,max b q,rfl⟩
theorem lU {k:Nat} {x y:Pt} (hx:x.le k) (hy:y.le k) (hk:1≤k):(x.mul y).le (2*k):=by
 cases x with
 | fin p=>cases y with
  | fin q=>
   have:=bV p q
   have h1:sz p≤k:=hx
   have h2:sz q≤k:=hy
   show sz (p*q)≤2*k
   omega
  | inf u=>
   show Pt.le _ (if p=0 then .fin 0 else .inf _)
   split
   ·exact χ (show sz 0≤1 by decide) (by omega)
   ·trivial
 | inf u=>cases y with
  | fin q=>
   show Pt.le _ (if q=0 then .fin 0 else .inf _)
   split
   ·exact χ (show sz 0≤1 by decide) (by omega)
   ·trivial
  |inf w=>trivial
theorem wr {a b c d:Option Rat}:(outer (lowP a) (highP b) (lowP c) (highP d) 2).1=.e→(outer (lowP a) (highP b) (lowP c) (highP d) 2).2=(true,true):=by
 have hj:∀(s:NS) (q:Rat),s.joined (.i (some q) (some q))≠.e:=fun s q k=>by cases s<;>cases k
 have key:∀z1 z2 z3 z4:Pt,(stp (stp (stp (stp (.e,false,false) z1) z2) z3) z4).1=.e→∃u1 u2 u3 u4,z1=.inf u1∧z2=.inf u2∧z3=.inf u3∧z4=.inf u4:=by
  intro z1 z2 z3 z4 k
  have h4:∀(o:NS×Bool×Bool) (z:Pt),(stp o z).1=.e→o.1=.e∧∃u,z=.inf u:=by
   intro o z k
   cases z with
   |fin q=>exact(hj _ _ k).elim
   |inf u=>refine⟨?_,u,rfl⟩;cases u<;>exact k
  obtain⟨k,u4,e4⟩:=h4 _ _ k
  obtain⟨k,u3,e3⟩:=h4 _ _ k
  obtain⟨k,u2,e2⟩:=h4 _ _ k
  obtain⟨k,u1,e1⟩:=h4 _ _ k
  exact⟨u1,u2,u3,u4,e1,e2,e3,e4⟩
 intro k
 obtain⟨u1,u2,u3,u4,e1,e2,e3,e4⟩:=key _ _ _ _ k
 show(stp (stp (stp (stp (.e,false,false) ((lowP a).mul (lowP c))) ((lowP a).mul (highP d))) ((highP b).mul (lowP c))) ((highP b).mul (highP d))).2=_
 rw[e1,e2,e3,e4]
 have m1:∀{p:Rat} {u v:Bool},Pt.mul (.fin p) (.inf u)=.inf v→v=(u == decide (0 < p)):=by
  intro p u v k
  simp only[Pt.mul] at k
  split at k
  ·cases k
  ·cases k;rfl
 have m2:∀{p:Rat} {u v:Bool},Pt.mul (.inf u) (.fin p)=.inf v→v=(u == decide (0 < p)):=by
  intro p u v k
  simp only[Pt.mul] at k
  split at k
  ·cases k
  ·cases k;rfl
 cases a with
 | some a=>
  cases c with
  |some c=>cases e1
  | none=>cases d with
   |some d=>cases e2
   | none=>
    have:=m1 e1;have:=m1 e2
    subst u1 u2
    cases decide (0 < a)<;>cases u3<;>cases u4<;>rfl
 | none=>
  cases b with
  | some b=>
   cases c with
   |some c=>cases e3
   | none=>cases d with
    |some d=>cases e4
    | none=>
     have:=m1 e3;have:=m1 e4
     subst u3 u4
     cases decide (0 < b)<;>cases u1<;>cases u2<;>rfl
  | none=>
   cases c with
   | some c=>
    have:=m2 e1;have:=m2 e3
    subst u1 u3
    cases decide (0 < c)<;>cases u2<;>cases u4<;>rfl
   | none=>
    have e1':u1=true:=by cases e1;rfl
    have e3':u3=false:=by cases e3;rfl
    subst e1' e3'
    cases u2<;>cases u4<;>rfl
end Go.Q
