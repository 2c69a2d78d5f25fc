/-
  How many nodes an expression has; valid expressions, and what stands on it. Conditions: each theorem's own.
-/
import Derived.Test.YtgmcchhklbeckaaGreatDoorKe4358bPkS
import Derived.Test.YtgmcchhklbeckaaGreatDoorKdab1e0PkO
import Derived.Test.YtgmcchhklbeckaaGreatDoorK3a8f22PkR
set_option linter.unusedVariables false
set_option linter.unusedSimpArgs false
open Nat renaming reduceBEq→ξ,reduceAdd→ζ,le_refl→η,zero_le→qBh,lt_or_ge→qBj
open Bool renaming and_eq_true→φ
namespace Go.Q
open Go.Proofs
set_option maxRecDepth 100000
set_option maxHeartbeats 8000000
def cntL (g:Nat→Nat→Nat) (a:Nat):Nat→Nat
 |0=>a
 |i+1=>if 300 < cntL g a i then cntL g a i else g i (cntL g a i)
theorem cntL_stay {g:Nat→Nat→Nat} {a i:Nat} (h:300 < cntL g a i):∀k,cntL g a (i+k)=cntL g a i
 |0=>rfl
 | k+1=>by
  rw[show cntL g a (i+(k+1))=if 300 < cntL g a (i+k) then cntL g a (i+k) else g (i+k) (cntL g a (i+k)) from rfl,cntL_stay h k,if_pos h]
theorem cntL_next {g:Nat→Nat→Nat} {a i:Nat} (h:¬300 < cntL g a i):cntL g a (i+1)=g i (cntL g a i):=by
 rw[show cntL g a (i+1)=if 300 < cntL g a i then cntL g a i else g i (cntL g a i) from rfl,if_neg h]
theorem cntL_le {g:Nat→Nat→Nat} (hg:∀i b,b≤300→g i b≤301) {a:Nat} (ha:a≤301):∀i,cntL g a i≤301
 |0=>ha
 | i+1=>by
  have:=cntL_le hg ha i
  unfold cntL
  split
  ·exact this
  ·exact hg i _ (by omega)
theorem cntL_sum {g:Nat→Nat→Nat} {L:Nat→List (Int×ByteArray)} {P:Nat→Prop} (hg:∀i b,g i b≤300→P i∧b+(L i).length=g i b) {a:Nat}:∀i,cntL g a i≤300→(∀j,j < i→P j)∧a+((List.range i).flatMap L).length=cntL g a i
 |0,_=>⟨fun j h=>absurd h (by omega),by simp[cntL]⟩
 | i + 1,h=>by
  have h1:¬300 < cntL g a i:=fun k=>by have:=cntL_stay (g:=g) (a:=a) (i:=i) k 1;omega
  rw[cntL_next h1] at h ⊢
  obtain⟨k1,k2⟩:=cntL_sum (a:=a) hg i (by omega)
  obtain⟨k3,k4⟩:=hg i _ h
  refine⟨fun j hj=>?_,?_⟩
  ·rcases qBj j i with q |q
   ·exact k1 j q
   ·obtain rfl:j=i:=by omega
    exact k3
  ·rw[←k4,←k2,List.range_succ,List.flatMap_append]
   simp;omega
theorem Count_spec (e:Exq):∃f:Nat→Nat→Nat,(∀d n,n≤300→f d n≤301)∧(∀d n,f d n≤300→(valX e∧nmOk e)∧n+(nodesL e).length=f d n)∧∀{h0 h:PH} [Le h0 h] {v:Value},Xv h0 e v→∀{d n:Nat},d≤31→n≤300→Spec mach 89 #[v,.int .i64 d,.int .i64 n] h (fun r _=>r=.int .i64 (f d n)) NP:=by
 induction e with
 |no=>exact⟨fun _ _=>301,fun _ _ _=>η _,fun _ _ h=>absurd (show 301≤300 from h) (by decide),fun hv=>hv.elim⟩
 | mk op arg num name nk kid ih=>
  obtain⟨F,hF⟩:=Classical.axiomOfChoice ih
  obtain⟨bF,hb1,hb2⟩:=Fields_spec op arg num name nk
  refine⟨fun d n=>if 300 < n+1∨30 < d∨bF=false then 301 else cntL (fun i a=>F i (d+1) a) (n+1) nk,fun d n hn=>?_,fun d n h=>?_,fun {h0 h} _ {v} hv {d n} hd hn=>?_⟩
  ·dsimp only
   split
   ·omega
   ·exact cntL_le (fun i b hb=>(hF i).1 _ _ hb) (by omega) nk
  ·dsimp only at h ⊢
   by_cases hc:300 < n+1∨30 < d∨bF=false
   ·rw[if_pos hc] at h;omega
   ·rw[if_neg hc] at h ⊢
    have hbF:bF=true:=by cases hq:bF with
     |true=>rfl
     |false=>exact absurd (.inr (.inr hq)) hc
    obtain⟨k1,k2⟩:=hb1 hbF
    obtain⟨k3,k4⟩:=cntL_sum (L:=fun i=>nodesL (kid i)) (P:=fun i=>valX (kid i)∧nmOk (kid i)) (fun i b hb=>(hF i).2.1 _ _ hb) nk h
    refine⟨⟨⟨k1,fun i hi=>(k3 i hi).1⟩,⟨k2,fun i hi=>(k3 i hi).2⟩⟩,?_⟩
    rw[←k4,nodesL,List.length_cons]
    omega
  ·obtain⟨a,c,hnd,hk30,hk⟩:=hv
   have kF:=fun {h} [Le h0 h]=>hb2 (h:=h) hnd
   obtain⟨a1,m1,c1,a2,m2,c2,rfl,_⟩:=hnd
   dsimp only
   by_cases q1:300 < n+1
   ·rw[if_pos (.inl q1)]
    have q1':((n:Int)+1 > 300):=by omega
    refine Spec.go [] Tryz.func89 rfl rfl (by kernel_rfl) fun C _=>?_
    try simp(disch:=omega) only[go_sem,ξ,ζ,q1',decide_true]
    all_goals rfl
   have q1':¬((n:Int)+1 > 300):=by omega
   by_cases q2:30 < d
   ·rw[if_pos (.inr (.inl q2))]
    have q2':((d:Int) > 30):=by omega
    refine Spec.go [] Tryz.func89 rfl rfl (by kernel_rfl) fun C _=>?_
    try simp(disch:=omega) only[go_sem,ξ,ζ,q1',q2',decide_true,decide_false]
    all_goals rfl
   have q2':¬((d:Int) > 30):=by omega
   cases hbF:bF with
   | false=>
    rw[hbF] at kF
    rw[if_pos (.inr (.inr rfl))]
    refine Spec.go [] Tryz.func89 rfl rfl (by kernel_rfl) fun C _=>?_
    try simp(disch:=omega) only[go_sem,ξ,ζ,q1',q2',decide_false]
    refine caN (by exact kF) ?_;rintro _ g1 s1 rfl
    try simp(disch:=omega) only[go_sem,ξ,ζ]
    all_goals rfl
   | true=>
    rw[hbF] at kF
    have q3:¬(300 < n+1∨30 < d∨true=false):=by
     rintro(k |k |k)
     ·exact q1 k
     ·exact q2 k
     ·cases k
    rw[if_neg q3]
    refine Spec.go [] Tryz.func89 rfl rfl (by kernel_rfl) fun C _=>?_
    try simp(disch:=omega) only[go_sem,ξ,ζ,q1',q2',decide_false]
    refine caN (by exact kF) ?_;rintro _ g1 s1 rfl
    try simp(disch:=omega) only[go_sem,ξ,ζ]
    have hle:=fun i=>cntL_le (g:=fun i a=>F i (d+1) a) (fun i b hb=>(hF i).1 _ _ hb) (a:=n+1) (by omega) i
    refine lp [] (fun i:Nat=>⟨[(1,.v (.int .i64 d)),(2,.v (.int .i64 (cntL (fun i a=>F i (d+1) a) (n+1) i:Nat))),(23,.v (.slice a nk c)),(24,.v (.int .i64 nk)),(25,.v (.int .i64 i))],[]⟩) (fun i h'=>Le h0 h'∧i≤nk∧cntL (fun i a=>F i (d+1) a) (n+1) i≤300) (fun i=>nk - i) 0 ?_ ⟨inferInstance,qBh _,by show n+1≤300;omega⟩ (by kernel_rfl) ?_
    ·try simp(disch:=omega) only[go_sem,ξ,ζ,cntL]
     all_goals (constructor<;>rfl)
    rintro i h2 ⟨le2,hi,hac⟩
    by_cases hl:(i:Int) < (nk:Int)
    ·obtain⟨ad,cs,rfl,hlen,hat,hkid⟩:=hk i (by omega)
     have kN:=fun {h} [Le h0 h]=>(hF i).2.2 (h:=h) hkid (d:=d+1) (n:=cntL (fun i a=>F i (d+1) a) (n+1) i) (by omega) hac
     have hnx:cntL (fun i a=>F i (d+1) a) (n+1) (i+1)=F i (d+1) (cntL (fun i a=>F i (d+1) a) (n+1) i):=cntL_next (by omega)
     rw[←hnx] at kN
     have hl1:=hle (i+1)
     have hst:=fun k1=>cntL_stay (g:=fun i a=>F i (d+1) a) (a:=n+1) (i:=i+1) k1 (nk - (i+1))
     rw[show i+1+(nk - (i+1))=nk by omega] at hst
     obtain⟨y1,y2,y3,y4,y5,y6,y7,y8,y9,y10,y11,y12,y13,rfl⟩:=hkid.cs
     generalize hA:cntL (fun i a=>F i (d+1) a) (n+1) (i+1)=A at*
     try simp(disch:=omega) only[go_sem,ξ,ζ,hl,decide_true]
     refine Exists.intro [_,_,_,_,_,_,_] (And.intro rfl (And.intro (fun j u hj=>le2.sub.at (hat j u hj)) ?_))
     try simp(disch:=omega) only[go_sem,ξ,ζ]
     refine caN (by exact kN) ?_;rintro _ h3 s3 rfl
     by_cases q:300 < A
     ·have q':((A:Int) > 300):=by omega
      try simp(disch:=omega) only[go_sem,ξ,ζ,q',decide_true]
      rw[hst q]
     ·have q':¬((A:Int) > 300):=by omega
      try simp(disch:=omega) only[go_sem,ξ,ζ,q',decide_false]
      dsimp only[lpE];refine⟨i+1,?_,⟨inferInstance,by omega,by rw[hA];omega⟩,by omega⟩
      try simp(disch:=omega) only[go_sem,ξ,ζ,hA]
      all_goals rfl
    ·obtain rfl:i=nk:=by omega
     try simp(disch:=omega) only[go_sem,ξ,ζ,hl,decide_false]
     all_goals rfl
theorem EValidX_spec (e:Exq):∃b:Bool,(b=true→(valX e∧nmOk e)∧(nodesL e).length≤300)∧∀{h0 h:PH} [Le h0 h] {v:Value},Xv h0 e v→Spec mach 52 #[v] h (fun r _=>r=.bool b) NP:=by
 obtain⟨f,h1,h2,h3⟩:=Count_spec e
 refine⟨decide (f 1 0≤300),fun h=>?_,fun {h0 h} _ {v} hv=>?_⟩
 ·obtain⟨k1,k2⟩:=h2 1 0 (of_decide_eq_true h)
  exact⟨k1,by have:=of_decide_eq_true h;omega⟩
 ·have kC:∀{h:PH} [Le h0 h],Spec mach 89 #[v,.int .i64 1,.int .i64 0] h (fun r _=>r=.int .i64 (f 1 0)) NP:=fun {h} [Le h0 h]=>h3 (h:=h) hv (d:=1) (n:=0) (by decide) (by decide)
  obtain _ |⟨op,arg,num,name,nk,kid⟩:=e
  ·exact hv.elim
  obtain⟨a,c,⟨a1,m1,c1,a2,m2,c2,rfl,_⟩,_⟩:=hv
  refine Spec.go [] Tryz.func52 rfl rfl (by kernel_rfl) fun C _=>?_
  try simp(disch:=omega) only[go_sem,ξ,ζ]
  refine caN (by exact kC) ?_;rintro _ g1 s1 rfl
  try simp(disch:=omega) only[go_sem,ξ,ζ]
  have hd:decide (((f 1 0:Nat):Int)≤300)=decide (f 1 0≤300):=by
   by_cases q:f 1 0≤300
   ·rw[decide_eq_true q,decide_eq_true (by omega)]
   ·rw[decide_eq_false q,decide_eq_false (by omega)]
  rw[hd]
end Go.Q
namespace Go.Q
open Go.Proofs Go.RowKit
set_option maxRecDepth 100000
set_option maxHeartbeats 8000000
theorem fnd_map (l:List Sd1) (s:ByteArray):fnd l s=(l.map fun x=>x.1.toList).findIdx? (fun t=>t == s.toList):=by
 unfold fnd
 rw[List.findIdx?_map]
 rfl
theorem narP.fnd {b l:List Sd1} (q:narP b l) (s:ByteArray):Go.Q.fnd b s=Go.Q.fnd l s:=by
 rw[fnd_map,fnd_map]
 have e:(b.map fun x=>x.1.toList)=(l.map fun x=>x.1.toList):=by
  apply List.ext_getElem?
  intro i
  rw[List.getElem?_map,List.getElem?_map]
  rcases qBj i b.length with h |h
  ·have h':i < l.length:=q.1▸h
   rw[List.getElem?_eq_getElem h,List.getElem?_eq_getElem h']
   simp only[Option.map_some,Option.some.injEq]
   exact(q.2 i _ _ (List.getElem?_eq_getElem h) (List.getElem?_eq_getElem h')).1
  ·rw[List.getElem?_eq_none h,List.getElem?_eq_none (q.1▸h)]
 rw[e]
theorem inXB_iff {x y:RI} (h:inXB x y=true):x.big=false∧y.big=false∧x.set.within y.set=true:=by
 unfold inXB at h
 simp only[φ,Bool.not_eq_true',Bool.or_eq_false_iff] at h
 exact⟨h.1.1,h.1.2,h.2⟩
theorem narP.bx {b l:List Sd1} (q:narP b l) (s:ByteArray):(bxF b s).big=false∧(bxF b s).set.within (bxF l s).set=true:=by
 unfold bxF
 rw[q.fnd s]
 cases Go.Q.fnd l s with
 | none=>
  dsimp only
  exact⟨rfl,within_refl _⟩
 | some i=>
  dsimp only
  rcases qBj i b.length with h |h
  ·have h':i < l.length:=q.1▸h
   rw[List.getElem?_eq_getElem h,List.getElem?_eq_getElem h']
   have k:=inXB_iff (q.2 i _ _ (List.getElem?_eq_getElem h) (List.getElem?_eq_getElem h')).2
   exact⟨k.1,k.2.2⟩
  ·rw[List.getElem?_eq_none h,List.getElem?_eq_none (q.1▸h)]
   exact⟨rfl,within_refl _⟩
theorem sub_law {b l:List Sd1} {p:Int} {e:Exq} {ve:Bool} {z:NS} {q q2:Out} (n:narP b l) (ob:okB b=true) (h1:Rgo (Rdy ve l p e) (evX (bxF l) p e) q) (hq:q=.ok z) (h2:Rgo (Rdy ve b p e) (evX (bxF b) p e) q2):z.le 2048∧(q2=.error 1∨∃y,q2=.ok y∧y.le 2048∧inXB y.ri z.ri=true):=by
 have hr:Rdy ve l p e:=by
  apply Classical.byContradiction
  intro k
  obtain⟨e,_,h⟩:=h1.2 k
  rw[hq] at h;cases h
 have hr2:Rdy ve b p e:=⟨hr.1,ob,hr.2.2.1,fun nm hm=>by rw[n.fnd];exact hr.2.2.2 nm hm⟩
 have e1:=h1.1 hr
 have e2:=h2.1 hr2
 rw[hq] at e1
 cases o:evX (bxF l) p e with
 |error k=>rw[o] at e1;cases e1
 | ok L=>
  rw[o] at e1
  cases e1
  have hz:=ev_le o
  refine⟨hz,?_⟩
  rcases evx_fine (B:=bxF l) (B':=bxF b) hr.2.2.1 hr.2.2.1 (Int.le_refl p) n.bx e z o with g |⟨S,g,g2,g3⟩
  ·rw[g] at e2
   exact .inl e2
  ·rw[g] at e2
   refine .inr ⟨S,e2,g3,?_⟩
   unfold inXB
   rw[NS.ri_big g3,NS.ri_big hz,ri_iso g2]
   rfl
theorem Subboxes_law {h0 h:PH} [Le h0 h] {e:Exq} {ev v w:Value} {b l:List Sd1} {p:Int} (he:Xv h0 e ev) (hb:Boxv h0 v b) (hl:Boxv h0 w l):Spec mach 3 #[ev,v,w,.int .i64 p] h (fun r _=>r=.bool true) NP:=by
 obtain⟨bw,hw,kW⟩:=Without_spec e
 obtain⟨ve,hve,kE⟩:=EValidX_spec e
 have kH:=fun {h:PH} [Le h0 h]=>Heavy_spec (h:=h) he (p:=p) (m:=150) (by decide)
 have kW:=fun {h:PH} [Le h0 h]=>kW (h0:=h0) (h:=h) he
 have kB:=fun {h:PH} [Le h0 h]=>BValid_spec (h:=h) hb
 have kN:=fun {h:PH} [Le h0 h]=>Narrow_spec (h:=h) hb hl
 have kL:=fun(g:woX e) {h:PH} [Le h0 h]=>RangeX_spec (h:=h) (p:=p) he hl hve g (fun {h} [Le h0 h]=>kE he)
 have kS:=fun(g:woX e) {h:PH} [Le h0 h]=>RangeX_spec (h:=h) (p:=p) he hb hve g (fun {h} [Le h0 h]=>kE he)
 obtain⟨va,vm,vc,rfl⟩:=hb.sa
 obtain⟨wa,wm,wc,rfl⟩:=hl.sa
 have law:=fun {z q q2} (n:narP b l) (ob:okB b=true) h1 hq h2=>sub_law (p:=p) (e:=e) (ve:=ve) (z:=z) (q:=q) (q2:=q2) n ob h1 hq h2
 generalize okB b=ob at*
 generalize hR1:Rgo (Rdy ve l p e) (evX (bxF l) p e)=R1 at*
 generalize hR2:Rgo (Rdy ve b p e) (evX (bxF b) p e)=R2 at*
 have ho:∃op arg num name n kid,e=.mk op arg num name n kid:=by
  cases e with
  |no=>exact he.elim
  |mk op arg num name n kid=>exact⟨_,_,_,_,_,_,rfl⟩
 obtain⟨op,arg,num,name,n,kid,rfl⟩:=ho
 obtain⟨a,c,⟨a1,m1,c1,a2,m2,c2,rfl,_⟩,_⟩:=he
 refine Spec.go [] Tryz.func3 rfl rfl (by kernel_rfl) fun C _=>?_
 try simp(disch:=omega) only[go_sem,ξ,ζ]
 refine caN (by exact kH) ?_;rintro _ h1 s1 ⟨b1,rfl⟩
 cases b1 with
 | true=>
  try simp(disch:=omega) only[go_sem,ξ,ζ]
  refine caN (by exact awake05_spec) ?_;rintro _ h2 s2 rfl
  try simp(disch:=omega) only[go_sem,ξ,ζ]
  all_goals rfl
 | false =>
  try simp(disch:=omega) only[go_sem,ξ,ζ]
  refine caN (by exact kW) ?_;rintro _ h2 s2 rfl
  cases bw with
  | false=>
   try simp(disch:=omega) only[go_sem,ξ,ζ]
   refine caN (by exact awake05_spec) ?_;rintro _ h3 s3 rfl
   try simp(disch:=omega) only[go_sem,ξ,ζ]
   all_goals rfl
  | true=>
   have kL':=fun {h:PH} [Le h0 h]=>kL (hw rfl) (h:=h)
   have kS':=fun {h:PH} [Le h0 h]=>kS (hw rfl) (h:=h)
   try simp(disch:=omega) only[go_sem,ξ,ζ]
   refine caN (by exact kB) ?_;rintro _ h3 s3 rfl
   cases ob with
   | false=>
    try simp(disch:=omega) only[go_sem,ξ,ζ]
    refine caN (by exact awake05_spec) ?_;rintro _ h4 s4 rfl
    try simp(disch:=omega) only[go_sem,ξ,ζ]
    all_goals rfl
   | true=>
    try simp(disch:=omega) only[go_sem,ξ,ζ]
    refine caN (by exact kN) ?_;rintro _ h4 s4 ⟨bn,rfl,hn⟩
    cases bn with
    | false=>
     try simp(disch:=omega) only[go_sem,ξ,ζ]
     refine caN (by exact awake05_spec) ?_;rintro _ h5 s5 rfl
     try simp(disch:=omega) only[go_sem,ξ,ζ]
     all_goals rfl
    | true=>
     try simp(disch:=omega) only[go_sem,ξ,ζ]
     refine caN (by exact kL') ?_;rintro _ h5 s5 ⟨q1,r1,g1⟩
     cases q1 with
     | error k =>
      obtain rfl:=r1
      have k0 :(k != 0)=true:=by
       have:k≠0:=fun e=>by
        subst e
        rw[←hR1] at g1
        by_cases hh:Rdy ve l p (.mk op arg num name n kid)
        ·have:=g1.1 hh
         cases o:evX (bxF l) p (.mk op arg num name n kid) with
         |ok z=>rw[o] at this;cases this
         | error k=>
          rw[o] at this
          have k1:=ev_nz k o
          have:(0:Int)=undE k:=Except.error.inj this
          unfold undE at this
          cases g:k == 10<;>rw[g] at this
          ·exact k1 this.symm
          ·cases this
        ·obtain⟨k,k1,k2⟩:=g1.2 hh
         cases k2;exact k1 rfl
       simpa using this
      unfold zIv
      try simp(disch:=omega) only[go_sem,ξ,ζ,k0]
      refine caN (by exact awake05_spec) ?_;rintro _ h6 s6 rfl
      try simp(disch:=omega) only[go_sem,ξ,ζ]
      all_goals rfl
     | ok z=>
      obtain⟨u,rfl,c1⟩:=r1;obtain⟨_,_,_,_,_,_,_,_,_,_,_,_,_,_,_,_,rfl,c1⟩:=c1.sa
      try simp(disch:=omega) only[go_sem,ξ,ζ]
      refine caN (by exact kS') ?_;rintro _ h6 s6 ⟨q2,r2,g2⟩
      obtain⟨hz,hl⟩:=law (hn rfl) rfl g1 rfl g2
      rcases hl with rfl |⟨y,rfl,hy,hi⟩
      ·obtain rfl:=r2
       unfold zIv
       try simp(disch:=omega) only[go_sem,ξ,ζ]
       refine caN (by exact awake05_spec) ?_;rintro _ h7 s7 rfl
       try simp(disch:=omega) only[go_sem,ξ,ζ]
       all_goals rfl
      ·obtain⟨u,rfl,c2⟩:=r2;obtain⟨_,_,_,_,_,_,_,_,_,_,_,_,_,_,_,_,rfl,c2⟩:=c2.sa
       have kI:=fun {h:PH} [Le h6 h]=>Ins_spec (h:=h) (c2.iv hy) ((c1.to (h':=h6)).iv hz)
       rw[hi] at kI
       try simp(disch:=omega) only[go_sem,ξ,ζ]
       refine caN (by exact kI) ?_;rintro _ h7 s7 rfl
       try simp(disch:=omega) only[go_sem,ξ,ζ]
       refine caN (by exact awake05_spec) ?_;rintro _ h8 s8 rfl
       try simp(disch:=omega) only[go_sem,ξ,ζ]
       all_goals rfl
end Go.Q
namespace Go.Q
open Go.Proofs Go.Proofs.YtgmcchhklbeckaaGreatDoor
set_option maxRecDepth 100000
open Go.ChangeShapes Go.WideShapes Go.ChangeAt Go.RowKit
theorem flEx:flds Tryz.prog 27=some [(3,0),(3,1),(24,2),(9,5),(25,6)]:=by kernel_rfl
theorem unEx:Tryz.prog.underlying 25=some (.slice 27):=by kernel_rfl
theorem ceEx:Tryz.prog.cellsOf 27=7:=by kernel_rfl
theorem ceEs:Tryz.prog.cellsOf 25=1:=by kernel_rfl
theorem ceI3:Tryz.prog.cellsOf 3=1:=by kernel_rfl
section
variable {H:Type} {enc:TypeId×Value→H} {W:World} {sp:Nat→Bool} {held:Bool}
theorem open_expr (fuel:Nat):∀{cs:List Value} {x:DataW H×List MemPlace},DataW.trod enc Tryz.prog W 0 sp held fuel 27 cs=some x→∀{B:Nat},B≤1048576→Rows.uptoBulk x.1≤B→∃e:Exq,Xv (pub W) e (.agg cs.toArray):=by
 induction fuel using Nat.strongRecOn with
 |ind fuel ih=>
 intro cs x h B hB hk
 obtain⟨fs,hu,hf⟩:=flds_some flEx
 obtain⟨xs,n,rfl,rfl,hl,hsz,hg⟩:=DataW.trod_struct hu h
 rw[ceEx] at hl
 have hfs:fs.size=5:=by
  have:=congrArg List.length hf
  simpa using this
 match cs,hl with
 |[c0,c1,c2,c3,c4,c5,c6],_=>
 have get:∀(i t o:Nat),(fs.toList.map fun f=>(f.type,f.offset))[i]?=some (t,o)→∃f:Field,fs[i]?=some f∧f.type=t∧f.offset=o:=by
  intro i t o hi
  rw[List.getElem?_map,Option.map_eq_some_iff] at hi
  obtain⟨f,h1,h2⟩:=hi
  cases h2
  exact⟨f,by simpa using h1,rfl,rfl⟩
 obtain⟨f0,k0,e0,o0⟩:=get 0 3 0 (by rw[hf];rfl)
 obtain⟨f1,k1,e1,o1⟩:=get 1 3 1 (by rw[hf];rfl)
 obtain⟨f2,k2,e2,o2⟩:=get 2 24 2 (by rw[hf];rfl)
 obtain⟨f3,k3,e3,o3⟩:=get 3 9 5 (by rw[hf];rfl)
 obtain⟨f4,k4,e4,o4⟩:=get 4 25 6 (by rw[hf];rfl)
 have g0:=hg 0 f0 k0
 have g1:=hg 1 f1 k1
 have g2:=hg 2 f2 k2
 have g3:=hg 3 f3 k3
 have g4:=hg 4 f4 k4
 rw[e0,o0,ceI3] at g0
 rw[e1,o1,ceI3] at g1
 rw[e2,o2,ce24] at g2
 rw[e3,o3,ceSt] at g3
 rw[e4,o4,ceEs] at g4
 rw[hfs] at hsz
 match xs,hsz with
 |[y0,y1,y2,y3,y4],_=>
 simp only[List.drop_zero,List.take_succ_cons,List.take_zero,List.drop_succ_cons,List.getElem?_cons_zero,List.getElem?_cons_succ] at g0 g1 g2 g3 g4
 simp only[Rows.uptoBulk,List.map_cons,List.map_nil,Rows.uptoBulkAll] at hk
 obtain⟨op,e0,_⟩:=DataW.trod_int un3 g0
 obtain⟨arg,e1,_⟩:=DataW.trod_int un3 g1
 obtain⟨neg,nn,dd,hr,_⟩:=open_rat g2 hB (by omega)
 obtain⟨nm,e3,_⟩:=DataW.trod_string unSt g3
 have kids:∃(a:Option Addr) (m c:Nat) (K:Nat→Exq),c6=.slice a m c∧m≤2^30∧∀i,i < m→∃(ad:Addr) (cs:List Value),a=some ad∧cs.length=7∧(∀(j:Nat) u,cs[j]?=some u→(pub W).at ((ad.add (i*7)).add j)=some u)∧Xv (pub W) (K i) (.agg cs.toArray):=by
  have hk4:Rows.uptoBulk y4.1≤B:=by omega
  rcases DataW.trod_slice unEx g4 with⟨e,_⟩ |⟨a,len,cap,elems,rest,n',hn',e,rfl,_,hl,hm,hlen,hel,_,_⟩
  ·cases e
   exact⟨none,0,0,fun _=>.no,rfl,by decide,fun i h=>absurd h (Nat.not_lt_zero _)⟩
  cases e
  simp only[Rows.uptoBulk] at hk4
  have b1:=bulk_len (H:=H) (elems.map (·.1))
  rw[List.length_map,hlen] at b1
  have hc:∀i,∃e:Exq,i < len→∃cs:List Value,cs.length=7∧(∀(j:Nat) u,cs[j]?=some u→(pub W).at ((a.add (i*7)).add j)=some u)∧Xv (pub W) e (.agg cs.toArray):=by
   intro i
   by_cases hi:i < len
   ·have he:=hel i hi
    obtain⟨y,hy⟩:∃y,elems[i]?=some y:=⟨_,List.getElem?_eq_getElem (by omega)⟩
    rw[hy,Option.bind_eq_some_iff,ceEx] at he
    obtain⟨cs,hc,ht⟩:=he
    have hb:=bulk_mem (d:=y.1) (l:=elems.map (·.1)) (List.mem_map.2 ⟨y,List.mem_of_getElem? hy,rfl⟩)
    obtain⟨e,hx⟩:=ih n' (by omega) ht hB (by omega)
    have hc':=World.cells?_some hc
    refine⟨e,fun _=>⟨cs,hc'.2.1,fun j u hu=>?_,hx⟩⟩
    have:j < 7:=by have:=(List.getElem?_eq_some_iff.1 hu).1;have:=hc'.2.1;omega
    rw[pub_at,hc'.2.2 j this]
    exact hu
   ·exact⟨.no,fun h=>absurd h hi⟩
  obtain⟨K,hK⟩:=Classical.axiomOfChoice hc
  refine⟨some a,len,cap,K,rfl,by omega,fun i hi=>?_⟩
  obtain⟨cs,q1,q2,q3⟩:=hK i hi
  exact⟨a,cs,rfl,q1,q2,q3⟩
 obtain⟨a,m,c,K,rfl,hm,hK⟩:=kids
 have hr0:=hr
 obtain⟨a1,d1,xs,a2,d2,ys,e,_⟩:=hr
 simp only[Value.agg.injEq,Array.mk.injEq,List.cons.injEq,and_true] at e
 obtain⟨rfl,rfl,rfl⟩:=e
 cases e0;cases e1;cases e3
 exact⟨.mk op arg (neg,nn,dd) nm m K,a,c,⟨a1,_,d1,a2,_,d2,rfl,hr0⟩,hm,hK⟩
end
end Go.Q
