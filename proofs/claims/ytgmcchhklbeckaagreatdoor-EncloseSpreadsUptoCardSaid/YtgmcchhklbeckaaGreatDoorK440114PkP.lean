/-
  Contracts of package interval, and what stands on it. Conditions: each theorem's own.
-/
import Derived.Test.YtgmcchhklbeckaaGreatDoorKb801f5PkO
import Derived.Test.YtgmcchhklbeckaaGreatDoorKf2e869PkN
import Derived.Test.YtgmcchhklbeckaaGreatDoorK3550acPkG
set_option linter.unusedVariables false
set_option linter.unusedSimpArgs false
open Nat renaming reduceBEq→ξ,reduceAdd→ζ,le_trans→χ,le_refl→η,one_mul→qBm
open Bool renaming false_eq_true→qAw
namespace Go.Q
open Go.Proofs
set_option maxRecDepth 100000
set_option maxHeartbeats 8000000
def stp (o:NS×Bool×Bool):Pt→NS×Bool×Bool
 |.fin q=>(o.1.joined (.i (some q) (some q)),o.2.1,o.2.2)
 |.inf true=>(o.1,o.2.1,true)
 |.inf false=>(o.1,true,o.2.2)
def inn (x y1 y2:Pt) (o:NS×Bool×Bool):Nat→NS×Bool×Bool
 |0=>o
 |1=>stp o (x.mul y1)
 |_+2=>stp (stp o (x.mul y1)) (x.mul y2)
def fin3 (o:NS×Bool×Bool):NS:=
 match o.1 with
 |.e=>.i (bif o.2.1 then none else some 0) (bif o.2.2 then none else some 0)
 |.i l h=>.i (bif o.2.1 then none else l) (bif o.2.2 then none else h)
def outer (x1 x2 y1 y2:Pt):Nat→NS×Bool×Bool
 |0=>(.e,false,false)
 |1=>inn x1 y1 y2 (.e,false,false) 2
 |_+2=>inn x2 y1 y2 (inn x1 y1 y2 (.e,false,false) 2) 2
def NS.prod:NS→NS→NS
 |.i a b,.i c d=>fin3 (outer (lowP a) (highP b) (lowP c) (highP d) 2)
 |_,_=>.e
def NS.pts (k:Nat) (o:NS×Bool×Bool):Prop:=o.1.ok∧o.1.le k∧(o.1=.e∨∃a b,o.1=.i (some a) (some b))
theorem le_pt {q:Rat} {k:Nat} (h:sz q≤k):(NS.i (some q) (some q)).le k:=by
 rw[NS.le_i];exact⟨fun _ e=>by cases e;exact h,fun _ e=>by cases e;exact h⟩
theorem le_jn {x y:NS} {k:Nat} (hx:x.le k) (hy:y.le k):(x.joined y).le k:=by
 cases x with
 |e=>cases y<;>exact hy
 | i a b =>
  cases y with
  |e=>exact hx
  | i c d=>
   rw[NS.le_i] at hx hy
   show NS.le k (.i (jmin a c) (jmax b d))
   rw[NS.le_i]
   refine⟨fun q e=>?_,fun q e=>?_⟩
   ·cases a with
    |none=>cases e
    | some a=>
     cases c with
     |none=>cases e
     |some c=>cases e;exact py (hx.1 _ rfl) (hy.1 _ rfl)
   ·cases b with
    |none=>cases e
    | some b=>
     cases d with
     |none=>cases e
     |some d=>cases e;exact px (hx.2 _ rfl) (hy.2 _ rfl)
theorem ja {k:Nat} {o:NS×Bool×Bool} {z:Pt} (ho:NS.pts k o) (hz:z.le k):NS.pts k (stp o z):=by
 obtain⟨s,l,u⟩:=o
 cases z with
 |inf u=>cases u<;>exact ho
 | fin q=>
  have hq:(NS.i (some q) (some q)).ok:=by simp[NS.ok,ordO]
  refine⟨NS.ok_joined ho.1 hq,le_jn ho.2.1 (le_pt hz),.inr ?_⟩
  rcases ho.2.2 with e |⟨a,b,e⟩
  ·cases(e:s=.e);exact⟨q,q,rfl⟩
  ·cases(e:s=.i _ _);exact⟨min a q,max b q,rfl⟩
theorem lU {k:Nat} {x y:Pt} (hx:x.le k) (hy:y.le k) (hk:1≤k):(x.mul y).le (2*k):=by
 cases x with
 | fin p=>cases y with
  | fin q=>
   have:=bV p q
   have h1:sz p≤k:=hx
   have h2:sz q≤k:=hy
   show sz (p*q)≤2*k
   omega
  | inf u=>
   show Pt.le _ (if p=0 then .fin 0 else .inf _)
   split
   ·exact χ (show sz 0≤1 by decide) (by omega)
   ·trivial
 | inf u=>cases y with
  | fin q=>
   show Pt.le _ (if q=0 then .fin 0 else .inf _)
   split
   ·exact χ (show sz 0≤1 by decide) (by omega)
   ·trivial
  |inf w=>trivial
theorem wr {a b c d:Option Rat}:(outer (lowP a) (highP b) (lowP c) (highP d) 2).1=.e→(outer (lowP a) (highP b) (lowP c) (highP d) 2).2=(true,true):=by
 have hj:∀(s:NS) (q:Rat),s.joined (.i (some q) (some q))≠.e:=fun s q k=>by cases s<;>cases k
 have key:∀z1 z2 z3 z4:Pt,(stp (stp (stp (stp (.e,false,false) z1) z2) z3) z4).1=.e→∃u1 u2 u3 u4,z1=.inf u1∧z2=.inf u2∧z3=.inf u3∧z4=.inf u4:=by
  intro z1 z2 z3 z4 k
  have h4:∀(o:NS×Bool×Bool) (z:Pt),(stp o z).1=.e→o.1=.e∧∃u,z=.inf u:=by
   intro o z k
   cases z with
   |fin q=>exact(hj _ _ k).elim
   |inf u=>refine⟨?_,u,rfl⟩;cases u<;>exact k
  obtain⟨k,u4,e4⟩:=h4 _ _ k
  obtain⟨k,u3,e3⟩:=h4 _ _ k
  obtain⟨k,u2,e2⟩:=h4 _ _ k
  obtain⟨k,u1,e1⟩:=h4 _ _ k
  exact⟨u1,u2,u3,u4,e1,e2,e3,e4⟩
 intro k
 obtain⟨u1,u2,u3,u4,e1,e2,e3,e4⟩:=key _ _ _ _ k
 show(stp (stp (stp (stp (.e,false,false) ((lowP a).mul (lowP c))) ((lowP a).mul (highP d))) ((highP b).mul (lowP c))) ((highP b).mul (highP d))).2=_
 rw[e1,e2,e3,e4]
 have m1:∀{p:Rat} {u v:Bool},Pt.mul (.fin p) (.inf u)=.inf v→v=(u == decide (0 < p)):=by
  intro p u v k
  simp only[Pt.mul] at k
  split at k
  ·cases k
  ·cases k;rfl
 have m2:∀{p:Rat} {u v:Bool},Pt.mul (.inf u) (.fin p)=.inf v→v=(u == decide (0 < p)):=by
  intro p u v k
  simp only[Pt.mul] at k
  split at k
  ·cases k
  ·cases k;rfl
 cases a with
 | some a=>
  cases c with
  |some c=>cases e1
  | none=>cases d with
   |some d=>cases e2
   | none=>
    have:=m1 e1;have:=m1 e2
    subst u1 u2
    cases decide (0 < a)<;>cases u3<;>cases u4<;>rfl
 | none=>
  cases b with
  | some b=>
   cases c with
   |some c=>cases e3
   | none=>cases d with
    |some d=>cases e4
    | none=>
     have:=m1 e3;have:=m1 e4
     subst u3 u4
     cases decide (0 < b)<;>cases u1<;>cases u2<;>rfl
  | none=>
   cases c with
   | some c=>
    have:=m2 e1;have:=m2 e3
    subst u1 u3
    cases decide (0 < c)<;>cases u2<;>cases u4<;>rfl
   | none=>
    have e1':u1=true:=by cases e1;rfl
    have e3':u3=false:=by cases e3;rfl
    subst e1' e3'
    cases u2<;>cases u4<;>rfl
set_option maxHeartbeats 16000000
theorem NS.le30' {x:NS} (h:x.le 4096):x.le (2^30):=h.up (by decide)
theorem Pt.up {z:Pt} {k m:Nat} (h:z.le k) (hm:k≤m):z.le m:=by
 cases z with
 |fin q=>exact χ h hm
 |inf u=>trivial
theorem qR {a:Option Rat} {k:Nat} (h:∀q,a=some q→sz q≤k):(lowP a).le k:=by
 cases a with
 |none=>trivial
 |some q=>exact h q rfl
theorem og {a:Option Rat} {k:Nat} (h:∀q,a=some q→sz q≤k):(highP a).le k:=by
 cases a with
 |none=>trivial
 |some q=>exact h q rfl
theorem Ao {h0 h:PH} [Le h0 h] {v w:Value} {a b c d:Option Rat} (hs:Sn h0 v (.i a b)) (ht:Sn h0 w (.i c d)) (ls:(NS.i a b).le 2048) (lt:(NS.i c d).le 2048):
    Spec mach 177 #[v,w] h (fun v h'=>Sn h' v ((NS.i a b).prod (.i c d))) NP:=by
  rw[NS.le_i] at ls lt
  have la0:=qR ls.1
  have lb0:=og ls.2
  have lc0:=qR lt.1
  have ld0:=og lt.2
  have la:=Pt.up (m:=2^30) la0 (by decide)
  have lb:=Pt.up (m:=2^30) lb0 (by decide)
  have lc:=Pt.up (m:=2^30) lc0 (by decide)
  have ld:=Pt.up (m:=2^30) ld0 (by decide)
  have kA:=fun {h} [Le h0 h]=>y8 (h:=h) hs
  have kB:=fun {h} [Le h0 h]=>y8 (h:=h) ht
  have he:=wr (a:=a) (b:=b) (c:=c) (d:=d)
  obtain⟨b1,a1,m1,c1,a2,m2,c2,b2,a3,m3,c3,a4,m4,c4,rfl,_,_⟩:=hs.ie
  obtain⟨b1',a1',m1',c1',a2',m2',c2',b2',a3',m3',c3',a4',m4',c4',rfl,_,_⟩:=ht.ie
  show Spec _ _ _ _ (fun v h'=>Sn h' v (fin3 (outer (lowP a) (highP b) (lowP c) (highP d) 2))) _
  generalize lowP a=x1 at*
  generalize highP b=x2 at*
  generalize lowP c=y1 at*
  generalize highP d=y2 at*
  refine Spec.go [] Tryz.func177 rfl rfl (by kernel_rfl) fun C _=>?_
  try simp(maxSteps:=999999) (disch:=omega) only[go_sem,ξ,ζ,Int.toNat_one,Nat.zero_mul,qBm,Nat.zero_add,List.set_cons_zero,List.set_cons_succ]
  refine caN (by exact kA) ?_;rintro w1 h1 s1 zz1;obtain⟨p1,p2,p3,p4,p5,p6,p7,q1,q2,q3,q4,q5,q6,q7,rfl,ea,eb⟩:=zz1
  try simp(maxSteps:=999999) (disch:=omega) only[go_sem,ξ,ζ,Int.toNat_one,Nat.zero_mul,qBm,Nat.zero_add,List.set_cons_zero,List.set_cons_succ]
  refine lpSl [] (fun x:Nat×List Value×Bool×Bool=>⟨[(3,.p 1 0),(4,.p 2 0),(5,.p 3 0),(6,.v (.bool x.2.2.1)),(7,.v (.bool x.2.2.2)),(15,.v (.agg #[.bool p1,.slice p2 p3 p4,.slice p5 p6 p7,.int .i64 x1.side,.bool q1,.slice q2 q3 q4,.slice q5 q6 q7,.int .i64 x2.side])),(16,.v (.int .i64 x.1))],[[.bool b1,.slice a1 m1 c1,.slice a2 m2 c2,.bool b2,.slice a3 m3 c3,.slice a4 m4 c4,.bool a.isNone,.bool b.isNone,.bool false],[.bool b1',.slice a1' m1' c1',.slice a2' m2' c2',.bool b2',.slice a3' m3' c3',.slice a4' m4' c4',.bool c.isNone,.bool d.isNone,.bool false],[.bool false,.slice none 0 0,.slice none 0 0,.bool false,.slice none 0 0,.slice none 0 0,.bool false,.bool false,.bool false],x.2.1]⟩) (fun x h'=>Le h1 h'∧x.1≤2∧∃J,Sn h' (.agg x.2.1.toArray) J∧NS.pts 4096 (J,x.2.2.1,x.2.2.2)∧outer x1 x2 y1 y2 x.1=(J,x.2.2.1,x.2.2.2)) (fun x=>2 - x.1) (0,[.bool false,.slice none 0 0,.slice none 0 0,.bool false,.slice none 0 0,.slice none 0 0,.bool false,.bool false,.bool true],false,false) [0,1,2,3] ?_ ⟨inferInstance,by decide,.e,⟨_,_,_,_,_,_,_,_,rfl,En.nil _,En.nil _⟩,⟨trivial,rfl,.inl rfl⟩,rfl⟩ (by kernel_rfl) ?_
  · try simp(maxSteps:=999999) (disch:=omega) only[go_sem,ξ,ζ,aJ,Int.toNat_one,Nat.zero_mul,qBm,Nat.zero_add,List.set_cons_zero,List.set_cons_succ]
  rintro⟨i,cs,lo,hi⟩ h2 ⟨le2,hi2,J,hJ,hpt,hacc⟩
  have leh:Le h0 h2:=Le.tr inferInstance le2
  dsimp only at*
  obtain⟨g1,g2,g3,g4,g5,g6,g7,g8,g9,ga,gb,gc,gd,ge,gl,gu,gv,rfl⟩:∃g1 g2 g3 g4 g5 g6 g7 g8 g9 ga gb gc gd ge gl gu gv,cs=[.bool g1,.slice g2 g3 g4,.slice g5 g6 g7,.bool g8,.slice g9 ga gb,.slice gc gd ge,.bool gl,.bool gu,.bool gv]:=by
    obtain⟨_,_,_,_,_,_,_,_,_,_,_,_,_,_,_,_,e,_⟩:=hJ.sa
    simp only[Value.agg.injEq,Array.mk.injEq] at e
    exact⟨_,_,_,_,_,_,_,_,_,_,_,_,_,_,_,_,_,e⟩
  obtain rfl |rfl |rfl:i=2∨i=0∨i=1:=by omega
  · rw[hacc] at he
    try simp(maxSteps:=999999) (disch:=omega) only[go_sem,ξ,ζ,Int.toNat_one,Nat.zero_mul,qBm,Nat.zero_add,List.set_cons_zero,List.set_cons_succ]
    rw[hacc]
    cases J with
    | e=>
      obtain⟨rfl,rfl⟩:lo=true∧hi=true:=by have:=he rfl;simpa using this
      obtain⟨_,_,_,_,_,_,_,_,e,j1,j2⟩:=hJ
      simp only[Value.agg.injEq,Array.mk.injEq,List.cons.injEq,and_true,Value.bool.injEq] at e
      obtain⟨rfl,rfl,rfl,rfl,rfl,rfl,_⟩:=e
      exact⟨_,_,_,_,_,_,rfl,j1,j2⟩
    | i l u=>
      obtain⟨_,_,_,_,_,_,e,j1,j2⟩:=hJ
      simp only[Value.agg.injEq,Array.mk.injEq,List.cons.injEq,and_true,Value.bool.injEq] at e
      obtain⟨rfl,rfl,rfl,rfl,rfl,rfl,_⟩:=e
      obtain⟨l,u,e⟩:=hpt.2.2.resolve_left (fun k=>by cases k)
      cases e
      cases lo<;>cases hi<;>exact⟨_,_,_,_,_,_,rfl,by first |exact j1 |exact j1.junk,by first |exact j2 |exact j2.junk⟩
  · try simp(maxSteps:=999999) (disch:=omega) only[go_sem,ξ,ζ,Int.toNat_one,Nat.zero_mul,qBm,Nat.zero_add,List.set_cons_zero,List.set_cons_succ]
    refine caN (by exact kB) ?_;rintro w3 h3 s3 zz3;obtain⟨r1,r2,r3,r4,r5,r6,r7,t1,t2,t3,t4,t5,t6,t7,rfl,ec,ed⟩:=zz3
    try simp(maxSteps:=999999) (disch:=omega) only[go_sem,ξ,ζ,Int.toNat_one,Nat.zero_mul,qBm,Nat.zero_add,List.set_cons_zero,List.set_cons_succ]
    have eX:=ea.to (h':=h3)
    have hO:outer x1 x2 y1 y2 (0+1)=inn x1 y1 y2 (J,lo,hi) 2:=by rw[←hacc];rfl
    have lX:x1.le (2^30):=la
    have lX0:x1.le 2048:=la0
    obtain⟨o,ho⟩:∃o,(J,lo,hi)=o:=⟨_,rfl⟩
    rw[ho] at hO
    refine lpSl [] (fun x:Nat×List Value×Bool×Bool=>⟨[(3,.p 1 0),(4,.p 2 0),(5,.p 3 0),(6,.v (.bool x.2.2.1)),(7,.v (.bool x.2.2.2)),(9,.p 4 0),(15,.v (.agg #[.bool p1,.slice p2 p3 p4,.slice p5 p6 p7,.int .i64 x1.side,.bool q1,.slice q2 q3 q4,.slice q5 q6 q7,.int .i64 x2.side])),(16,.v (.int .i64 0)),(20,.v (.agg #[.bool r1,.slice r2 r3 r4,.slice r5 r6 r7,.int .i64 y1.side,.bool t1,.slice t2 t3 t4,.slice t5 t6 t7,.int .i64 y2.side])),(21,.v (.int .i64 x.1))],[[.bool b1,.slice a1 m1 c1,.slice a2 m2 c2,.bool b2,.slice a3 m3 c3,.slice a4 m4 c4,.bool a.isNone,.bool b.isNone,.bool false],[.bool b1',.slice a1' m1' c1',.slice a2' m2' c2',.bool b2',.slice a3' m3' c3',.slice a4' m4' c4',.bool c.isNone,.bool d.isNone,.bool false],[.bool false,.slice none 0 0,.slice none 0 0,.bool false,.slice none 0 0,.slice none 0 0,.bool false,.bool false,.bool false],x.2.1,[.bool p1,.slice p2 p3 p4,.slice p5 p6 p7,.int .i64 x1.side]]⟩) (fun x h'=>Le h3 h'∧x.1≤2∧∃J,Sn h' (.agg x.2.1.toArray) J∧NS.pts 4096 (J,x.2.2.1,x.2.2.2)∧inn x1 y1 y2 o x.1=(J,x.2.2.1,x.2.2.2)) (fun x=>2 - x.1) (0,_,lo,hi) [0,1,2,3,4] ?_ ⟨inferInstance,(show 0≤2 by decide),J,hJ.to (h':=h3),hpt,ho.symm⟩ (by kernel_rfl) ?_
    · try simp(maxSteps:=999999) (disch:=omega) only[go_sem,ξ,ζ,aJ,Int.toNat_one,Nat.zero_mul,qBm,Nat.zero_add,List.set_cons_zero,List.set_cons_succ]
    clear hJ hpt hacc ho
    rintro⟨j,cs,lo,hi⟩ h4 ⟨le4,hj,J,hJ,hpt,hacc⟩
    dsimp only at*
    generalize hX:x1=X at*
    obtain⟨k1,k2,k3,k4,k5,k6,k7,k8,k9,ka,kb,kc,kd,ke,kl,ku,kv,rfl⟩:∃k1 k2 k3 k4 k5 k6 k7 k8 k9 ka kb kc kd ke kl ku kv,cs=[.bool k1,.slice k2 k3 k4,.slice k5 k6 k7,.bool k8,.slice k9 ka kb,.slice kc kd ke,.bool kl,.bool ku,.bool kv]:=by
      obtain⟨_,_,_,_,_,_,_,_,_,_,_,_,_,_,_,_,e,_⟩:=hJ.sa
      simp only[Value.agg.injEq,Array.mk.injEq] at e
      exact⟨_,_,_,_,_,_,_,_,_,_,_,_,_,_,_,_,_,e⟩
    obtain rfl |rfl |rfl:j=2∨j=0∨j=1:=by omega
    · try simp(maxSteps:=999999) (disch:=omega) only[go_sem,ξ,ζ,Int.toNat_one,Nat.zero_mul,qBm,Nat.zero_add,List.set_cons_zero,List.set_cons_succ]
      dsimp only[lpS];refine⟨(0+1,_,lo,hi),[0,1,2,3],?_,⟨Le.tr le2 (Le.tr inferInstance le4),(show 0+1≤2 by decide),J,hJ,hpt,by rw[hO];exact hacc⟩,(show 2 - (0+1) < 2 - 0 by decide)⟩
      try simp(maxSteps:=999999) (disch:=omega) only[go_sem,ξ,ζ,aJ,Int.toNat_one,Nat.zero_mul,qBm,Nat.zero_add,List.set_cons_zero,List.set_cons_succ]
      all_goals rfl
    · try simp(maxSteps:=999999) (disch:=omega) only[go_sem,ξ,ζ,Int.toNat_one,Nat.zero_mul,qBm,Nat.zero_add,List.set_cons_zero,List.set_cons_succ]
      refine caN (by exact pc (eX.to (h':=h4)) (ec.to (h':=h4)) lX lc) ?_;rintro w5 h5 s5 zz5;obtain⟨f1,f2,f3,f4,f5,f6,f7,rfl,zz5c⟩:=zz5.sa
      try simp(maxSteps:=999999) (disch:=omega) only[go_sem,ξ,ζ,Int.toNat_one,Nat.zero_mul,qBm,Nat.zero_add,List.set_cons_zero,List.set_cons_succ]
      have lz:=lU lX0 lc0 (by decide)
      have hz:inn X y1 y2 o (0+1)=stp (J,lo,hi) (X.mul y1):=by rw[←hacc];rfl
      generalize X.mul y1=z at*
      cases z with
      | fin q=>
        dsimp only[Pt.side] at*
        try simp(maxSteps:=999999) (disch:=omega) only[go_sem,ξ,ζ,Int.toNat_one,Nat.zero_mul,qBm,Nat.zero_add,List.set_cons_zero,List.set_cons_succ]
        refine caN (by exact qU zz5c.num) ?_;rintro _ h6 _ zz6;obtain⟨_,_,_,_,_,_,_,_,_,_,_,_,_,_,_,_,rfl,zz6⟩:=zz6.sa
        try simp(maxSteps:=999999) (disch:=omega) only[go_sem,ξ,ζ,Int.toNat_one,Nat.zero_mul,qBm,Nat.zero_add,List.set_cons_zero,List.set_cons_succ]
        refine caN (by exact mS (hJ.to (h':=h6)) zz6 (NS.le30' hpt.2.1) (NS.le30' (le_pt lz))) ?_;rintro _ h7 _ zz7;obtain⟨_,_,_,_,_,_,_,_,_,_,_,_,_,_,_,_,rfl,zz7⟩:=zz7.sa
        try simp(maxSteps:=999999) (disch:=omega) only[go_sem,ξ,ζ,Int.toNat_one,Nat.zero_mul,qBm,Nat.zero_add,List.set_cons_zero,List.set_cons_succ]
        dsimp only[lpS];refine⟨(0+1,_,lo,hi),[0,1,2,3,4],?_,⟨inferInstance,(show 0+1≤2 by decide),_,zz7,ja (z:=.fin q) hpt lz,hz⟩,(show 2 - (0+1) < 2 - 0 by decide)⟩
        try simp(maxSteps:=999999) (disch:=omega) only[go_sem,ξ,ζ,aJ,Int.toNat_one,Nat.zero_mul,qBm,Nat.zero_add,List.set_cons_zero,List.set_cons_succ]
        all_goals rfl
      | inf up=>
        cases up with
        | true=>
          dsimp only[Pt.side] at*
          simp only[if_true,if_false,qAw,reduceIte] at*
          try simp(maxSteps:=999999) (disch:=omega) only[go_sem,ξ,ζ,Int.toNat_one,Nat.zero_mul,qBm,Nat.zero_add,List.set_cons_zero,List.set_cons_succ]
          dsimp only[lpS];refine⟨(0+1,_,lo,true),[0,1,2,3,4],?_,⟨inferInstance,(show 0+1≤2 by decide),_,hJ.to (h':=h5),hpt,hz⟩,(show 2 - (0+1) < 2 - 0 by decide)⟩
          try simp(maxSteps:=999999) (disch:=omega) only[go_sem,ξ,ζ,aJ,Int.toNat_one,Nat.zero_mul,qBm,Nat.zero_add,List.set_cons_zero,List.set_cons_succ]
          all_goals rfl
        | false=>
          dsimp only[Pt.side] at*
          simp only[if_true,if_false,qAw,reduceIte] at*
          try simp(maxSteps:=999999) (disch:=omega) only[go_sem,ξ,ζ,Int.toNat_one,Nat.zero_mul,qBm,Nat.zero_add,List.set_cons_zero,List.set_cons_succ]
          dsimp only[lpS];refine⟨(0+1,_,true,hi),[0,1,2,3,4],?_,⟨inferInstance,(show 0+1≤2 by decide),_,hJ.to (h':=h5),hpt,hz⟩,(show 2 - (0+1) < 2 - 0 by decide)⟩
          try simp(maxSteps:=999999) (disch:=omega) only[go_sem,ξ,ζ,aJ,Int.toNat_one,Nat.zero_mul,qBm,Nat.zero_add,List.set_cons_zero,List.set_cons_succ]
          all_goals rfl
    · try simp(maxSteps:=999999) (disch:=omega) only[go_sem,ξ,ζ,Int.toNat_one,Nat.zero_mul,qBm,Nat.zero_add,List.set_cons_zero,List.set_cons_succ]
      refine caN (by exact pc (eX.to (h':=h4)) (ed.to (h':=h4)) lX ld) ?_;rintro w5 h5 s5 zz5;obtain⟨f1,f2,f3,f4,f5,f6,f7,rfl,zz5c⟩:=zz5.sa
      try simp(maxSteps:=999999) (disch:=omega) only[go_sem,ξ,ζ,Int.toNat_one,Nat.zero_mul,qBm,Nat.zero_add,List.set_cons_zero,List.set_cons_succ]
      have lz:=lU lX0 ld0 (by decide)
      have hz:inn X y1 y2 o (1+1)=stp (J,lo,hi) (X.mul y2):=by rw[←hacc];rfl
      generalize X.mul y2=z at*
      cases z with
      | fin q=>
        dsimp only[Pt.side] at*
        try simp(maxSteps:=999999) (disch:=omega) only[go_sem,ξ,ζ,Int.toNat_one,Nat.zero_mul,qBm,Nat.zero_add,List.set_cons_zero,List.set_cons_succ]
        refine caN (by exact qU zz5c.num) ?_;rintro _ h6 _ zz6;obtain⟨_,_,_,_,_,_,_,_,_,_,_,_,_,_,_,_,rfl,zz6⟩:=zz6.sa
        try simp(maxSteps:=999999) (disch:=omega) only[go_sem,ξ,ζ,Int.toNat_one,Nat.zero_mul,qBm,Nat.zero_add,List.set_cons_zero,List.set_cons_succ]
        refine caN (by exact mS (hJ.to (h':=h6)) zz6 (NS.le30' hpt.2.1) (NS.le30' (le_pt lz))) ?_;rintro _ h7 _ zz7;obtain⟨_,_,_,_,_,_,_,_,_,_,_,_,_,_,_,_,rfl,zz7⟩:=zz7.sa
        try simp(maxSteps:=999999) (disch:=omega) only[go_sem,ξ,ζ,Int.toNat_one,Nat.zero_mul,qBm,Nat.zero_add,List.set_cons_zero,List.set_cons_succ]
        dsimp only[lpS];refine⟨(1+1,_,lo,hi),[0,1,2,3,4],?_,⟨inferInstance,(show 1+1≤2 by decide),_,zz7,ja (z:=.fin q) hpt lz,hz⟩,(show 2 - (1+1) < 2 - 1 by decide)⟩
        try simp(maxSteps:=999999) (disch:=omega) only[go_sem,ξ,ζ,aJ,Int.toNat_one,Nat.zero_mul,qBm,Nat.zero_add,List.set_cons_zero,List.set_cons_succ]
        all_goals rfl
      | inf up=>
        cases up with
        | true=>
          dsimp only[Pt.side] at*
          simp only[if_true,if_false,qAw,reduceIte] at*
          try simp(maxSteps:=999999) (disch:=omega) only[go_sem,ξ,ζ,Int.toNat_one,Nat.zero_mul,qBm,Nat.zero_add,List.set_cons_zero,List.set_cons_succ]
          dsimp only[lpS];refine⟨(1+1,_,lo,true),[0,1,2,3,4],?_,⟨inferInstance,(show 1+1≤2 by decide),_,hJ.to (h':=h5),hpt,hz⟩,(show 2 - (1+1) < 2 - 1 by decide)⟩
          try simp(maxSteps:=999999) (disch:=omega) only[go_sem,ξ,ζ,aJ,Int.toNat_one,Nat.zero_mul,qBm,Nat.zero_add,List.set_cons_zero,List.set_cons_succ]
          all_goals rfl
        | false=>
          dsimp only[Pt.side] at*
          simp only[if_true,if_false,qAw,reduceIte] at*
          try simp(maxSteps:=999999) (disch:=omega) only[go_sem,ξ,ζ,Int.toNat_one,Nat.zero_mul,qBm,Nat.zero_add,List.set_cons_zero,List.set_cons_succ]
          dsimp only[lpS];refine⟨(1+1,_,true,hi),[0,1,2,3,4],?_,⟨inferInstance,(show 1+1≤2 by decide),_,hJ.to (h':=h5),hpt,hz⟩,(show 2 - (1+1) < 2 - 1 by decide)⟩
          try simp(maxSteps:=999999) (disch:=omega) only[go_sem,ξ,ζ,aJ,Int.toNat_one,Nat.zero_mul,qBm,Nat.zero_add,List.set_cons_zero,List.set_cons_succ]
          all_goals rfl
  · try simp(maxSteps:=999999) (disch:=omega) only[go_sem,ξ,ζ,Int.toNat_one,Nat.zero_mul,qBm,Nat.zero_add,List.set_cons_zero,List.set_cons_succ]
    refine caN (by exact kB) ?_;rintro w3 h3 s3 zz3;obtain⟨r1,r2,r3,r4,r5,r6,r7,t1,t2,t3,t4,t5,t6,t7,rfl,ec,ed⟩:=zz3
    try simp(maxSteps:=999999) (disch:=omega) only[go_sem,ξ,ζ,Int.toNat_one,Nat.zero_mul,qBm,Nat.zero_add,List.set_cons_zero,List.set_cons_succ]
    have eX:=eb.to (h':=h3)
    have hO:outer x1 x2 y1 y2 (1+1)=inn x2 y1 y2 (J,lo,hi) 2:=by rw[←hacc];rfl
    have lX:x2.le (2^30):=lb
    have lX0:x2.le 2048:=lb0
    obtain⟨o,ho⟩:∃o,(J,lo,hi)=o:=⟨_,rfl⟩
    rw[ho] at hO
    refine lpSl [] (fun x:Nat×List Value×Bool×Bool=>⟨[(3,.p 1 0),(4,.p 2 0),(5,.p 3 0),(6,.v (.bool x.2.2.1)),(7,.v (.bool x.2.2.2)),(9,.p 4 0),(15,.v (.agg #[.bool p1,.slice p2 p3 p4,.slice p5 p6 p7,.int .i64 x1.side,.bool q1,.slice q2 q3 q4,.slice q5 q6 q7,.int .i64 x2.side])),(16,.v (.int .i64 1)),(20,.v (.agg #[.bool r1,.slice r2 r3 r4,.slice r5 r6 r7,.int .i64 y1.side,.bool t1,.slice t2 t3 t4,.slice t5 t6 t7,.int .i64 y2.side])),(21,.v (.int .i64 x.1))],[[.bool b1,.slice a1 m1 c1,.slice a2 m2 c2,.bool b2,.slice a3 m3 c3,.slice a4 m4 c4,.bool a.isNone,.bool b.isNone,.bool false],[.bool b1',.slice a1' m1' c1',.slice a2' m2' c2',.bool b2',.slice a3' m3' c3',.slice a4' m4' c4',.bool c.isNone,.bool d.isNone,.bool false],[.bool false,.slice none 0 0,.slice none 0 0,.bool false,.slice none 0 0,.slice none 0 0,.bool false,.bool false,.bool false],x.2.1,[.bool q1,.slice q2 q3 q4,.slice q5 q6 q7,.int .i64 x2.side]]⟩) (fun x h'=>Le h3 h'∧x.1≤2∧∃J,Sn h' (.agg x.2.1.toArray) J∧NS.pts 4096 (J,x.2.2.1,x.2.2.2)∧inn x2 y1 y2 o x.1=(J,x.2.2.1,x.2.2.2)) (fun x=>2 - x.1) (0,_,lo,hi) [0,1,2,3,4] ?_ ⟨inferInstance,(show 0≤2 by decide),J,hJ.to (h':=h3),hpt,ho.symm⟩ (by kernel_rfl) ?_
    · try simp(maxSteps:=999999) (disch:=omega) only[go_sem,ξ,ζ,aJ,Int.toNat_one,Nat.zero_mul,qBm,Nat.zero_add,List.set_cons_zero,List.set_cons_succ]
    clear hJ hpt hacc ho
    rintro⟨j,cs,lo,hi⟩ h4 ⟨le4,hj,J,hJ,hpt,hacc⟩
    dsimp only at*
    generalize hX:x2=X at*
    obtain⟨k1,k2,k3,k4,k5,k6,k7,k8,k9,ka,kb,kc,kd,ke,kl,ku,kv,rfl⟩:∃k1 k2 k3 k4 k5 k6 k7 k8 k9 ka kb kc kd ke kl ku kv,cs=[.bool k1,.slice k2 k3 k4,.slice k5 k6 k7,.bool k8,.slice k9 ka kb,.slice kc kd ke,.bool kl,.bool ku,.bool kv]:=by
      obtain⟨_,_,_,_,_,_,_,_,_,_,_,_,_,_,_,_,e,_⟩:=hJ.sa
      simp only[Value.agg.injEq,Array.mk.injEq] at e
      exact⟨_,_,_,_,_,_,_,_,_,_,_,_,_,_,_,_,_,e⟩
    obtain rfl |rfl |rfl:j=2∨j=0∨j=1:=by omega
    · try simp(maxSteps:=999999) (disch:=omega) only[go_sem,ξ,ζ,Int.toNat_one,Nat.zero_mul,qBm,Nat.zero_add,List.set_cons_zero,List.set_cons_succ]
      dsimp only[lpS];refine⟨(1+1,_,lo,hi),[0,1,2,3],?_,⟨Le.tr le2 (Le.tr inferInstance le4),(show 1+1≤2 by decide),J,hJ,hpt,by rw[hO];exact hacc⟩,(show 2 - (1+1) < 2 - 1 by decide)⟩
      try simp(maxSteps:=999999) (disch:=omega) only[go_sem,ξ,ζ,aJ,Int.toNat_one,Nat.zero_mul,qBm,Nat.zero_add,List.set_cons_zero,List.set_cons_succ]
      all_goals rfl
    · try simp(maxSteps:=999999) (disch:=omega) only[go_sem,ξ,ζ,Int.toNat_one,Nat.zero_mul,qBm,Nat.zero_add,List.set_cons_zero,List.set_cons_succ]
      refine caN (by exact pc (eX.to (h':=h4)) (ec.to (h':=h4)) lX lc) ?_;rintro w5 h5 s5 zz5;obtain⟨f1,f2,f3,f4,f5,f6,f7,rfl,zz5c⟩:=zz5.sa
      try simp(maxSteps:=999999) (disch:=omega) only[go_sem,ξ,ζ,Int.toNat_one,Nat.zero_mul,qBm,Nat.zero_add,List.set_cons_zero,List.set_cons_succ]
      have lz:=lU lX0 lc0 (by decide)
      have hz:inn X y1 y2 o (0+1)=stp (J,lo,hi) (X.mul y1):=by rw[←hacc];rfl
      generalize X.mul y1=z at*
      cases z with
      | fin q=>
        dsimp only[Pt.side] at*
        try simp(maxSteps:=999999) (disch:=omega) only[go_sem,ξ,ζ,Int.toNat_one,Nat.zero_mul,qBm,Nat.zero_add,List.set_cons_zero,List.set_cons_succ]
        refine caN (by exact qU zz5c.num) ?_;rintro _ h6 _ zz6;obtain⟨_,_,_,_,_,_,_,_,_,_,_,_,_,_,_,_,rfl,zz6⟩:=zz6.sa
        try simp(maxSteps:=999999) (disch:=omega) only[go_sem,ξ,ζ,Int.toNat_one,Nat.zero_mul,qBm,Nat.zero_add,List.set_cons_zero,List.set_cons_succ]
        refine caN (by exact mS (hJ.to (h':=h6)) zz6 (NS.le30' hpt.2.1) (NS.le30' (le_pt lz))) ?_;rintro _ h7 _ zz7;obtain⟨_,_,_,_,_,_,_,_,_,_,_,_,_,_,_,_,rfl,zz7⟩:=zz7.sa
        try simp(maxSteps:=999999) (disch:=omega) only[go_sem,ξ,ζ,Int.toNat_one,Nat.zero_mul,qBm,Nat.zero_add,List.set_cons_zero,List.set_cons_succ]
        dsimp only[lpS];refine⟨(0+1,_,lo,hi),[0,1,2,3,4],?_,⟨inferInstance,(show 0+1≤2 by decide),_,zz7,ja (z:=.fin q) hpt lz,hz⟩,(show 2 - (0+1) < 2 - 0 by decide)⟩
        try simp(maxSteps:=999999) (disch:=omega) only[go_sem,ξ,ζ,aJ,Int.toNat_one,Nat.zero_mul,qBm,Nat.zero_add,List.set_cons_zero,List.set_cons_succ]
        all_goals rfl
      | inf up=>
        cases up with
        | true=>
          dsimp only[Pt.side] at*
          simp only[if_true,if_false,qAw,reduceIte] at*
          try simp(maxSteps:=999999) (disch:=omega) only[go_sem,ξ,ζ,Int.toNat_one,Nat.zero_mul,qBm,Nat.zero_add,List.set_cons_zero,List.set_cons_succ]
          dsimp only[lpS];refine⟨(0+1,_,lo,true),[0,1,2,3,4],?_,⟨inferInstance,(show 0+1≤2 by decide),_,hJ.to (h':=h5),hpt,hz⟩,(show 2 - (0+1) < 2 - 0 by decide)⟩
          try simp(maxSteps:=999999) (disch:=omega) only[go_sem,ξ,ζ,aJ,Int.toNat_one,Nat.zero_mul,qBm,Nat.zero_add,List.set_cons_zero,List.set_cons_succ]
          all_goals rfl
        | false=>
          dsimp only[Pt.side] at*
          simp only[if_true,if_false,qAw,reduceIte] at*
          try simp(maxSteps:=999999) (disch:=omega) only[go_sem,ξ,ζ,Int.toNat_one,Nat.zero_mul,qBm,Nat.zero_add,List.set_cons_zero,List.set_cons_succ]
          dsimp only[lpS];refine⟨(0+1,_,true,hi),[0,1,2,3,4],?_,⟨inferInstance,(show 0+1≤2 by decide),_,hJ.to (h':=h5),hpt,hz⟩,(show 2 - (0+1) < 2 - 0 by decide)⟩
          try simp(maxSteps:=999999) (disch:=omega) only[go_sem,ξ,ζ,aJ,Int.toNat_one,Nat.zero_mul,qBm,Nat.zero_add,List.set_cons_zero,List.set_cons_succ]
          all_goals rfl
    · try simp(maxSteps:=999999) (disch:=omega) only[go_sem,ξ,ζ,Int.toNat_one,Nat.zero_mul,qBm,Nat.zero_add,List.set_cons_zero,List.set_cons_succ]
      refine caN (by exact pc (eX.to (h':=h4)) (ed.to (h':=h4)) lX ld) ?_;rintro w5 h5 s5 zz5;obtain⟨f1,f2,f3,f4,f5,f6,f7,rfl,zz5c⟩:=zz5.sa
      try simp(maxSteps:=999999) (disch:=omega) only[go_sem,ξ,ζ,Int.toNat_one,Nat.zero_mul,qBm,Nat.zero_add,List.set_cons_zero,List.set_cons_succ]
      have lz:=lU lX0 ld0 (by decide)
      have hz:inn X y1 y2 o (1+1)=stp (J,lo,hi) (X.mul y2):=by rw[←hacc];rfl
      generalize X.mul y2=z at*
      cases z with
      | fin q=>
        dsimp only[Pt.side] at*
        try simp(maxSteps:=999999) (disch:=omega) only[go_sem,ξ,ζ,Int.toNat_one,Nat.zero_mul,qBm,Nat.zero_add,List.set_cons_zero,List.set_cons_succ]
        refine caN (by exact qU zz5c.num) ?_;rintro _ h6 _ zz6;obtain⟨_,_,_,_,_,_,_,_,_,_,_,_,_,_,_,_,rfl,zz6⟩:=zz6.sa
        try simp(maxSteps:=999999) (disch:=omega) only[go_sem,ξ,ζ,Int.toNat_one,Nat.zero_mul,qBm,Nat.zero_add,List.set_cons_zero,List.set_cons_succ]
        refine caN (by exact mS (hJ.to (h':=h6)) zz6 (NS.le30' hpt.2.1) (NS.le30' (le_pt lz))) ?_;rintro _ h7 _ zz7;obtain⟨_,_,_,_,_,_,_,_,_,_,_,_,_,_,_,_,rfl,zz7⟩:=zz7.sa
        try simp(maxSteps:=999999) (disch:=omega) only[go_sem,ξ,ζ,Int.toNat_one,Nat.zero_mul,qBm,Nat.zero_add,List.set_cons_zero,List.set_cons_succ]
        dsimp only[lpS];refine⟨(1+1,_,lo,hi),[0,1,2,3,4],?_,⟨inferInstance,(show 1+1≤2 by decide),_,zz7,ja (z:=.fin q) hpt lz,hz⟩,(show 2 - (1+1) < 2 - 1 by decide)⟩
        try simp(maxSteps:=999999) (disch:=omega) only[go_sem,ξ,ζ,aJ,Int.toNat_one,Nat.zero_mul,qBm,Nat.zero_add,List.set_cons_zero,List.set_cons_succ]
        all_goals rfl
      | inf up=>
        cases up with
        | true=>
          dsimp only[Pt.side] at*
          simp only[if_true,if_false,qAw,reduceIte] at*
          try simp(maxSteps:=999999) (disch:=omega) only[go_sem,ξ,ζ,Int.toNat_one,Nat.zero_mul,qBm,Nat.zero_add,List.set_cons_zero,List.set_cons_succ]
          dsimp only[lpS];refine⟨(1+1,_,lo,true),[0,1,2,3,4],?_,⟨inferInstance,(show 1+1≤2 by decide),_,hJ.to (h':=h5),hpt,hz⟩,(show 2 - (1+1) < 2 - 1 by decide)⟩
          try simp(maxSteps:=999999) (disch:=omega) only[go_sem,ξ,ζ,aJ,Int.toNat_one,Nat.zero_mul,qBm,Nat.zero_add,List.set_cons_zero,List.set_cons_succ]
          all_goals rfl
        | false=>
          dsimp only[Pt.side] at*
          simp only[if_true,if_false,qAw,reduceIte] at*
          try simp(maxSteps:=999999) (disch:=omega) only[go_sem,ξ,ζ,Int.toNat_one,Nat.zero_mul,qBm,Nat.zero_add,List.set_cons_zero,List.set_cons_succ]
          dsimp only[lpS];refine⟨(1+1,_,true,hi),[0,1,2,3,4],?_,⟨inferInstance,(show 1+1≤2 by decide),_,hJ.to (h':=h5),hpt,hz⟩,(show 2 - (1+1) < 2 - 1 by decide)⟩
          try simp(maxSteps:=999999) (disch:=omega) only[go_sem,ξ,ζ,aJ,Int.toNat_one,Nat.zero_mul,qBm,Nat.zero_add,List.set_cons_zero,List.set_cons_succ]
          all_goals rfl
theorem prod_pts {a b c d:Option Rat} (ls:(NS.i a b).le 2048) (lt:(NS.i c d).le 2048):NS.pts 4096 (outer (lowP a) (highP b) (lowP c) (highP d) 2):=by
 rw[NS.le_i] at ls lt
 have la:=qR ls.1
 have lb:=og ls.2
 have lc:=qR lt.1
 have ld:=og lt.2
 exact ja (ja (ja (ja ⟨trivial,rfl,.inl rfl⟩ (lU la lc (by decide))) (lU la ld (by decide))) (lU lb lc (by decide))) (lU lb ld (by decide))
theorem fin3_pts {k:Nat} {o:NS×Bool×Bool} (h:NS.pts k o) (hk:1≤k):(fin3 o).ok∧(fin3 o).le k:=by
 obtain⟨s,l,u⟩:=o
 obtain⟨h1,h2,h3⟩:=h
 have h0:sz 0≤k:=χ (show sz 0≤1 by decide) hk
 rcases h3 with e |⟨a,b,e⟩
 ·cases(e:s=.e)
  refine⟨?_,?_⟩
  ·cases l<;>cases u<;>simp[fin3,NS.ok,ordO]
  ·show NS.le k (.i _ _)
   rw[NS.le_i]
   cases l<;>cases u<;>exact⟨fun _ e=>by cases e;try exact h0,fun _ e=>by cases e;try exact h0⟩
 ·cases(e:s=.i _ _)
  have h2':=(NS.le_i.1 h2)
  refine⟨?_,?_⟩
  ·cases l<;>cases u<;>first |exact h1 |rfl
  ·show NS.le k (.i _ _)
   rw[NS.le_i]
   cases l<;>cases u<;>exact⟨fun _ e=>by cases e;try exact h2'.1 _ rfl,fun _ e=>by cases e;try exact h2'.2 _ rfl⟩
theorem fK {x y:NS} (hx:x.le 2048) (hy:y.le 2048):(x.prod y).ok∧(x.prod y).le 4096:=by
 cases x with
 |e=>exact⟨trivial,rfl⟩
 | i a b=>cases y with
  |e=>exact⟨trivial,rfl⟩
  |i c d=>exact fin3_pts (prod_pts hx hy) (by decide)
theorem Prod1 {h0 h:PH} [Le h0 h] {s t:Value} {x y:NS} (hs:Sn h0 s x) (ht:Sn h0 t y) (gx:x.void=false) (gy:y.void=false) (lx:x.le 2048) (ly:y.le 2048):Spec mach 177 #[s,t] h (fun v h'=>Sn h' v (x.prod y)) NP:=by
 cases x with
 |e=>cases gx
 | i a b=>cases y with
  |e=>cases gy
  |i c d=>exact Ao hs ht lx ly
theorem gH {h0 h:PH} [Le h0 h] {v w:Value} {x y:RI} {p:Int} (hv:Iv h0 v x) (hw:Iv h0 w y):Spec mach 106 #[v,w,.int .i64 p] h (fun r h'=>Ir h' r (x.fin2 y (rnd p x.set y.set (.ok (x.set.prod y.set))))) NP:=by
 have hv0:=hv
 have hw0:=hw
 obtain⟨a1,m1,c1,a2,m2,c2,a3,m3,c3,a4,m4,c4,rfl,_,_⟩:=hv.sa
 obtain⟨a1',m1',c1',a2',m2',c2',a3',m3',c3',a4',m4',c4',rfl,_,_⟩:=hw.sa
 refine Spec.go [] Tryz.func106 rfl rfl (by kernel_rfl) fun C _=>?_
 try simp(maxSteps:=999999) (disch:=omega) only[go_sem,ξ,ζ,Int.toNat_one,Nat.zero_mul,qBm,Nat.zero_add,List.set_cons_zero,List.set_cons_succ]
 refine caN (by exact mC hv0 hw0 (fun g g' k k' h' _ s t hs ht=>Does.mk (Prod1 hs.sn ht.sn k k' (RI.le g) (RI.le g'))) (fun g g' z e=>by cases e;exact(fK (RI.le g) (RI.le g')).2.up (by decide))) ?_;rintro _ h3 _ hr3;obtain⟨_,_,_,_,_,_,_,_,_,_,_,_,_,_,_,_,_,rfl,hr3⟩:=hr3.sa
 try simp(maxSteps:=999999) (disch:=omega) only[go_sem,ξ,ζ,Int.toNat_one,Nat.zero_mul,qBm,Nat.zero_add,List.set_cons_zero,List.set_cons_succ]
 exact hr3

end Go.Q
namespace Go.Q
open Go.Proofs Go.RowKit
set_option maxRecDepth 100000
set_option maxHeartbeats 16000000
def mulE (p:Int) (x y:RI):Out:=x.fin2 y (rnd p x.set y.set (.ok (x.set.prod y.set)))
def subE (p:Int) (x y:RI):Out:=x.fin2 y (rnd p x.set y.set (.ok (x.set.sum y.set.minus)))
def okE:Out→Bool
 |.ok _=>true
 |.error _=>false
theorem fin2_le {x y:RI} {o:Out} {z:NS} (h:x.fin2 y o=.ok z):z.le 2048:=by
 unfold RI.fin2 at h
 cases e:(x.big || y.big) with
 |true=>rw[e] at h;cases h
 | false=>
  rw[e,cond_false] at h
  cases o with
  |error e=>cases h
  | ok w=>
   unfold Out.fin at h
   dsimp only at h
   cases e2:decide (w.le 2048) with
   |false=>rw[e2] at h;cases h
   |true=>rw[e2] at h;cases h;exact of_decide_eq_true e2
structure Kx (n:Nat) (g:Nat→Nat) (W W':World):Prop where
 os:W'.os=W.os
 tape:W'.tape=W.tape
 output:W'.output=W.output
 size:W.heap.size≤W'.heap.size
 block:∀b,b < W.heap.size→(∀i,i < n→b≠g i)→W'.heap[b]?=W.heap[b]?
theorem Kx.refl (n:Nat) (g:Nat→Nat) (W:World):Kx n g W W:=⟨rfl,rfl,rfl,η _,fun _ _ _=>rfl⟩
theorem Kx.trans {n:Nat} {g:Nat→Nat} {A B C:World} (h:Kx n g A B) (k:Kx n g B C):Kx n g A C:=
 ⟨k.os.trans h.os,k.tape.trans h.tape,k.output.trans h.output,χ h.size k.size,fun b hb hn=>(k.block b (Nat.lt_of_lt_of_le hb h.size) hn).trans (h.block b hb hn)⟩
theorem Kx.of_below {n:Nat} {g:Nat→Nat} {A B:World} (h:Below A.heap.size A B):Kx n g A B:=⟨h.os,h.tape,h.output,h.size,fun b hb _=>h.block b hb⟩
end Go.Q
namespace Go.Q
open Go.Proofs
set_option maxRecDepth 100000
set_option maxHeartbeats 4000000
theorem CL {h0 h:PH} [Le h0 h] {v:Value} {x:RI} (hv:Iv h0 v x):Spec mach 213 #[v] h (fun r h'=>Ir h' r (x.fin (.ok x.set))) NP:=by
 have hv0:=hv
 obtain⟨a1,m1,c1,a2,m2,c2,a3,m3,c3,a4,m4,c4,rfl,hx,hy⟩:=hv.sa
 unfold RI.fin
 cases g:x.big with
 | true=>
  refine Spec.go [] Tryz.func213 rfl rfl (by kernel_rfl) fun C _=>?_
  try simp(maxSteps:=999999) (disch:=omega) only[go_sem,ξ,ζ]
  refine caN (by exact e8 (p:=0) hv0 g) ?_;rintro v1 h1 s1 q1;obtain rfl:=q1.err
  try simp(maxSteps:=999999) (disch:=omega) only[go_sem,ξ,ζ]
  all_goals rfl
 | false=>
  have hle:=RI.le g
  unfold Out.fin
  simp only[hle,decide_true,cond_true,cond_false]
  refine Spec.go [] Tryz.func213 rfl rfl (by kernel_rfl) fun C _=>?_
  try simp(maxSteps:=999999) (disch:=omega) only[go_sem,ξ,ζ]
  refine caN (by exact fu (p:=0) hv0 g rfl) ?_;rintro v1 h1 s1 q1;obtain⟨_,_,_,_,_,_,_,_,_,_,_,_,_,_,rfl,q2⟩:=q1.ok
  try simp(maxSteps:=999999) (disch:=omega) only[go_sem,ξ,ζ]
  refine caN (by exact jp q2 (hle.up (by decide))) ?_;rintro _ h2 _ f2;obtain⟨_,_,_,_,_,_,_,_,_,_,_,_,_,_,_,_,rfl,f2⟩:=f2.sa
  try simp(maxSteps:=999999) (disch:=omega) only[go_sem,ξ,ζ]
  exact⟨_,rfl,f2⟩
theorem xj {h0 h:PH} [Le h0 h] {v w:Value} {n1 n2:Bool} {a1 d1 a2 d2:Nat} (hv:Rw h0 v n1 a1 d1) (hw:Rw h0 w n2 a2 d2):
  Spec mach 135 #[v,w] h (fun r h'=>Ir h' r (RI.fin ⟨n1,a1,d1,n2,a2,d2,false,false⟩ (.ok (RI.set ⟨n1,a1,d1,n2,a2,d2,false,false⟩)))) NP:=by
 obtain⟨_,_,_,_,_,_,_,rfl,hv⟩:=hv.sa
 obtain⟨_,_,_,_,_,_,_,rfl,hw⟩:=hw.sa
 refine Spec.go [] Tryz.func135 rfl rfl (by kernel_rfl) fun C _=>?_
 try simp(maxSteps:=999999) (disch:=omega) only[go_sem,ξ,ζ]
 refine caN (by exact CL (Iv.mk hv hw false false)) ?_;rintro _ h3 _ hr3;obtain⟨_,_,_,_,_,_,_,_,_,_,_,_,_,_,_,_,_,rfl,hr3⟩:=hr3.sa
 try simp(maxSteps:=999999) (disch:=omega) only[go_sem,ξ,ζ]
 exact hr3
theorem RefPoint {h0 h:PH} [Le h0 h] {v:Value} {n1:Bool} {a1 d1:Nat} (hv:Rw h0 v n1 a1 d1):
  Spec mach 75 #[v] h (fun r h'=>Ir h' r (RI.fin ⟨n1,a1,d1,n1,a1,d1,false,false⟩ (.ok (RI.set ⟨n1,a1,d1,n1,a1,d1,false,false⟩)))) NP:=by
 obtain⟨_,_,_,_,_,_,_,rfl,hv⟩:=hv.sa
 refine Spec.go [] Tryz.func75 rfl rfl (by kernel_rfl) fun C _=>?_
 try simp(maxSteps:=999999) (disch:=omega) only[go_sem,ξ,ζ]
 refine caN (by exact xj hv hv) ?_;rintro _ h3 _ hr3;obtain⟨_,_,_,_,_,_,_,_,_,_,_,_,_,_,_,_,_,rfl,hr3⟩:=hr3.sa
 try simp(maxSteps:=999999) (disch:=omega) only[go_sem,ξ,ζ]
 exact hr3
def zRI:Value:=.agg #[.bool false,.slice none 0 0,.slice none 0 0,.bool false,.slice none 0 0,.slice none 0 0,.bool false,.bool false,.bool false]
theorem gm {h0 h:PH} [Le h0 h] {v w:Value} {x y:RI} {p:Int} (hv:Iv h0 v x) (hw:Iv h0 w y) (g:(x.big || y.big)=true):Spec mach 136 #[v,w,.int .i64 p] h (fun r _=>r=.tuple #[zRI,zRI,.int .i64 1]) NP:=by
 have kl:=fun {h} [Le h0 h]=>eZ (h:=h) hv
 have kl':=fun {h} [Le h0 h]=>eZ (h:=h) hw
 obtain⟨a1,m1,c1,a2,m2,c2,a3,m3,c3,a4,m4,c4,rfl,_,_⟩:=hv.sa
 obtain⟨a1',m1',c1',a2',m2',c2',a3',m3',c3',a4',m4',c4',rfl,_,_⟩:=hw.sa
 cases g1:x.big with
 | true=>
  rw[g1] at kl
  refine Spec.go [(5,.o [0,2,1,3,4,5,6])] Tryz.func136 rfl rfl (by kernel_rfl) fun C _=>?_
  try simp(disch:=omega) only[go_sem,ξ,ζ]
  refine caN (by exact kl) ?_;rintro v1 h1 s1 rfl
  try simp(disch:=omega) only[go_sem,ξ,ζ]
  all_goals rfl
 | false=>
  have g2:y.big=true:=by simpa[g1] using g
  rw[g1] at kl
  rw[g2] at kl'
  refine Spec.go [(5,.o [0,2,1,3,4,5,6])] Tryz.func136 rfl rfl (by kernel_rfl) fun C _=>?_
  try simp(disch:=omega) only[go_sem,ξ,ζ]
  refine caN (by exact kl) ?_;rintro v1 h1 s1 rfl
  try simp(disch:=omega) only[go_sem,ξ,ζ]
  refine caN (by exact kl') ?_;rintro v2 h2 s2 rfl
  try simp(disch:=omega) only[go_sem,ξ,ζ]
  all_goals rfl
theorem pb {h0 h:PH} [Le h0 h] {v w:Value} {x y:RI} {p:Int} (hv:Iv h0 v x) (hw:Iv h0 w y) (g1:x.big=false) (g2:y.big=false) (gp:bad p=true):Spec mach 136 #[v,w,.int .i64 p] h (fun r _=>r=.tuple #[zRI,zRI,.int .i64 2]) NP:=by
 have kl:=fun {h} [Le h0 h]=>eZ (h:=h) hv
 have kl':=fun {h} [Le h0 h]=>eZ (h:=h) hw
 rw[g1] at kl
 rw[g2] at kl'
 obtain⟨a1,m1,c1,a2,m2,c2,a3,m3,c3,a4,m4,c4,rfl,_,_⟩:=hv.sa
 obtain⟨a1',m1',c1',a2',m2',c2',a3',m3',c3',a4',m4',c4',rfl,_,_⟩:=hw.sa
 by_cases h2:p < 0
 ·refine Spec.go [(5,.o [0,2,1,3,4,5,6])] Tryz.func136 rfl rfl (by kernel_rfl) fun C _=>?_
  try simp(disch:=omega) only[go_sem,ξ,ζ]
  refine caN (by exact kl) ?_;rintro v1 h1 s1 rfl
  try simp(disch:=omega) only[go_sem,ξ,ζ]
  refine caN (by exact kl') ?_;rintro v2 h2' s2 rfl
  try simp(disch:=omega) only[go_sem,ξ,ζ]
  all_goals rfl
 ·have h3:128 < p:=(i7 gp).resolve_left h2
  refine Spec.go [(5,.o [0,2,1,3,4,5,6])] Tryz.func136 rfl rfl (by kernel_rfl) fun C _=>?_
  try simp(disch:=omega) only[go_sem,ξ,ζ]
  refine caN (by exact kl) ?_;rintro v1 h1 s1 rfl
  try simp(disch:=omega) only[go_sem,ξ,ζ]
  refine caN (by exact kl') ?_;rintro v2 h2' s2 rfl
  try simp(disch:=omega) only[go_sem,ξ,ζ]
  all_goals rfl
theorem iJ {h0 h:PH} [Le h0 h] {v w:Value} {x y:RI} {p:Int} (hv:Iv h0 v x) (hw:Iv h0 w y) (g1:x.big=false) (g2:y.big=false) (gp:bad p=false):Spec mach 136 #[v,w,.int .i64 p] h (fun r h'=>∃s t,r=.tuple #[s,t,.int .i64 0]∧Rr h' s x.set∧Rr h' t y.set) NP:=by
 have hv0:=hv
 have hw0:=hw
 have kl:=fun {h} [Le h0 h]=>eZ (h:=h) hv
 have kl':=fun {h} [Le h0 h]=>eZ (h:=h) hw
 rw[g1] at kl
 rw[g2] at kl'
 obtain⟨a1,m1,c1,a2,m2,c2,a3,m3,c3,a4,m4,c4,rfl,_,_⟩:=hv.sa
 obtain⟨a1',m1',c1',a2',m2',c2',a3',m3',c3',a4',m4',c4',rfl,_,_⟩:=hw.sa
 have h2:=jt gp
 have h3:¬p < 0:=by omega
 have h4:¬128 < p:=by omega
 refine Spec.go [(5,.o [0,2,1,3,4,5,6])] Tryz.func136 rfl rfl (by kernel_rfl) fun C _=>?_
 try simp(disch:=omega) only[go_sem,ξ,ζ]
 refine caN (by exact kl) ?_;rintro v1 h1 s1 rfl
 try simp(disch:=omega) only[go_sem,ξ,ζ]
 refine caN (by exact kl') ?_;rintro v2 h2' s2 rfl
 try simp(disch:=omega) only[go_sem,ξ,ζ]
 refine caN (by exact RefOf hv0 g1) ?_;rintro _ h3' _ f3;obtain⟨_,_,_,_,_,_,_,_,_,_,_,_,_,_,rfl,f3⟩:=f3.sa
 try simp(disch:=omega) only[go_sem,ξ,ζ]
 refine caN (by exact RefOf hw0 g2) ?_;rintro _ h4' _ f4;obtain⟨_,_,_,_,_,_,_,_,_,_,_,_,_,_,rfl,f4⟩:=f4.sa
 try simp(disch:=omega) only[go_sem,ξ,ζ]
 exact⟨_,_,rfl,f3.to,f4⟩
theorem jq {h0 h:PH} [Le h0 h] {v:Value} {x:NS} (hv:Rr h0 v x):Spec mach 140 #[v] h (fun r h'=>Rr h' r x.minus) NP:=by
 obtain⟨_,_,_,_,_,_,_,_,_,_,_,_,_,_,rfl,t1,t2⟩:=hv.sa
 cases x with
 | e=>
  dsimp only[NS.void]
  refine Spec.go [(3,.o [0,1,3,4,6,7,8,9,2,5,10,11])] Tryz.func140 rfl rfl (by kernel_rfl) fun C _=>?_
  try simp(disch:=omega) only[go_sem,ξ,ζ]
  exact⟨_,_,_,_,_,_,rfl,t1.to,t2.to⟩
 | i a b=>
  dsimp only[NS.void,NS.loN,NS.hiN,NS.lo0,NS.hi0] at*
  refine Spec.go [(3,.o [0,1,3,4,6,7,8,9,2,5,10,11])] Tryz.func140 rfl rfl (by kernel_rfl) fun C _=>?_
  try simp(disch:=omega) only[go_sem,ξ,ζ]
  refine caN (by exact bK t2) ?_;rintro _ h1 _ f1;obtain⟨_,_,_,_,_,_,_,rfl,f1⟩:=f1.sa
  try simp(disch:=omega) only[go_sem,ξ,ζ]
  refine caN (by exact bK t1) ?_;rintro _ h2 _ f2;obtain⟨_,_,_,_,_,_,_,rfl,f2⟩:=f2.sa
  try simp(disch:=omega) only[go_sem,ξ,ζ]
  have e3:(NS.i a b).minus.loN=b.isNone:=by cases b<;>rfl
  have e4:(NS.i a b).minus.hiN=a.isNone:=by cases a<;>rfl
  refine⟨_,_,_,_,_,_,by rw[e3,e4];rfl,?_,?_⟩
  ·have e1:(NS.i a b).minus.lo0= -(b.getD 0):=by cases b<;>simp[NS.minus,NS.lo0]
   rw[e1];exact f1.to
  ·have e1:(NS.i a b).minus.hi0= -(a.getD 0):=by cases a<;>simp[NS.minus,NS.hi0]
   rw[e1];exact f2
theorem NS.le.lesser {x y:NS} {k:Nat} (hx:x.le k) (hy:y.le k):(x.lesser y).le k:=by
 cases x with
 |e=>rfl
 | i a b =>
  cases y with
  |e=>rfl
  | i c d=>
   rw[NS.le_i] at hx hy
   show NS.le k (.i (jmin a c) (omin b d))
   rw[NS.le_i]
   refine⟨fun q e=>?_,fun q e=>?_⟩
   ·cases a with
    |none=>cases e
    | some a=>
     cases c with
     |none=>cases e
     |some c=>cases e;exact py (hx.1 _ rfl) (hy.1 _ rfl)
   ·cases b with
    |none=>exact hy.2 _ e
    | some b=>
     cases d with
     |none=>exact hx.2 _ e
     |some d=>cases e;exact py (hx.2 _ rfl) (hy.2 _ rfl)
set_option maxHeartbeats 8000000
theorem IH {h0 h:PH} [Le h0 h] {v w:Value} {x y:Rat} (hx:Qr h0 v x) (hy:Qr h0 w y) (bx:sz x≤2^35) (by_:sz y≤2^35):
  Spec mach 290 #[v,w] h (fun v h'=>Qr h' v (x*y)) NP:=by
 have hx0:=hx
 have hy0:=hy
 obtain⟨na,nl,nc,da,dl,dc,e,rfl,hn,hd,he⟩:=hx.sl
 obtain⟨na',nl',nc',da',dl',dc',e',rfl,hn',hd',he'⟩:=hy.sl
 have b1:=bG x;have b2:=bB x;have b3:=bG y;have b4:=bB y
 have b5:=aG x.num.natAbs y.num.natAbs
 have b6:=aG x.den y.den
 refine Spec.go [(1,.o [0,1,2,3,4,5,6,7,8,10,12,9,11,13,14,15,16])] Tryz.func290 rfl rfl (by kernel_rfl) fun C _=>?_
 try simp(disch:=omega) only[go_sem,ξ,ζ]
 refine caN (by exact aV hn hn' (by omega) (by omega)) ?_;rintro _ h1 _ hv1;obtain⟨_,_,_,rfl,hv1⟩:=hv1.sl
 try simp(disch:=omega) only[go_sem,ξ,ζ]
 refine caN (by exact dU hx0) ?_;rintro _ g1 _ hd1;obtain⟨_,_,_,rfl,hd1⟩:=hd1.sl
 try simp(disch:=omega) only[go_sem,ξ,ζ]
 refine caN (by exact dU hy0) ?_;rintro _ g2 _ hd2;obtain⟨_,_,_,rfl,hd2⟩:=hd2.sl
 try simp(disch:=omega) only[go_sem,ξ,ζ]
 refine caN (by exact aV (hd1.to (h':=g2)) hd2 (by omega) (by omega)) ?_;rintro _ h2 _ hv2;obtain⟨_,_,_,rfl,hv2⟩:=hv2.sl
 try simp(disch:=omega) only[go_sem,ξ,ζ]
 refine caN (by exact fQ (hv1.to (h':=h2)) hv2 (by omega) (by omega)) ?_;rintro _ h3 _ hv3;obtain⟨_,_,_,_,_,_,_,rfl,hv3⟩:=hv3.sa
 try simp(disch:=omega) only[go_sem,ξ,ζ]
 rw[qZ] at hv3
 exact hv3
@[reducible] def Pt.val:Pt→Rat
 |.fin q=>q
 |.inf _=>0
def RePt (h:PH) (v:Value) (z:Pt):Prop:=∃b x y,v=.agg #[.int .i64 z.side,.bool b,x,y]∧Qr h (.agg #[.bool b,x,y]) z.val
theorem RePt.to {h h':PH} {v:Value} {z:Pt} (r:RePt h v z) [Le h h']:RePt h' v z:=let ⟨a,b,c,h1,h2⟩:=r;⟨a,b,c,h1,h2.to⟩
theorem RePt.sa {h:PH} {v:Value} {z:Pt} (r:RePt h v z):∃b a1 m1 c1 a2 m2 c2,v=.agg #[.int .i64 z.side,.bool b,.slice a1 m1 c1,.slice a2 m2 c2]∧Qr h (.agg #[.bool b,.slice a1 m1 c1,.slice a2 m2 c2]) z.val:=by
 obtain⟨b,x,y,rfl,h1⟩:=r
 obtain⟨_,_,_,_,_,_,_,e1,_⟩:=h1.sa
 simp only[Value.agg.injEq,Array.mk.injEq,List.cons.injEq,and_true] at e1
 obtain⟨_,rfl,rfl⟩:=e1
 exact⟨_,_,_,_,_,_,_,rfl,h1⟩
def Pt.sg:Pt→Int
 |.fin q=>sgn3 q
 |.inf u=>if u=true then 1 else -1
theorem vA {h0 h:PH} [Le h0 h] {v:Value} {z:Pt} (hv:RePt h0 v z):Spec mach 289 #[v] h (fun r _=>r=.int .i64 z.sg) NP:=by
 obtain⟨b,a1,m1,c1,a2,m2,c2,rfl,e1⟩:=hv.sa
 cases z with
 | fin p=>
  dsimp only[Pt.side,Pt.sg,Pt.val] at*
  refine Spec.go [] Tryz.func289 rfl rfl (by kernel_rfl) fun C _=>?_
  try simp(disch:=omega) only[go_sem,ξ,ζ]
  refine caN (by exact bS e1) ?_;rintro v1 h1 s1 rfl
  try simp(disch:=omega) only[go_sem,ξ,ζ]
 | inf u=>
  cases u<;>
  ·dsimp only[Pt.side,Pt.sg,Pt.val] at*
   simp only[if_true,if_false,qAw,reduceIte]
   refine Spec.go [] Tryz.func289 rfl rfl (by kernel_rfl) fun C _=>?_
   try simp(disch:=omega) only[go_sem,ξ,ζ]
theorem Pt.sg_bd (z:Pt):z.sg= -1∨z.sg=0∨z.sg=1:=by
 cases z with
 |fin q=>exact BJ
 |inf u=>cases u<;>simp[Pt.sg]
theorem Pt.mul_zero {x y:Pt} (h:x.sg=0∨y.sg=0):x.mul y=.fin 0:=by
 cases x with
 | fin p=>cases y with
  | fin q=>
   show Pt.fin (p*q)=_
   rcases h with h |h
   ·have:=sgn3_zero.1 (show sgn3 p=0 from h);subst this;rw[Rat.zero_mul]
   ·have:=sgn3_zero.1 (show sgn3 q=0 from h);subst this;rw[Rat.mul_zero]
  | inf u=>
   have:=sgn3_zero.1 (show sgn3 p=0 from h.resolve_right (by cases u<;>simp[Pt.sg]));subst this;simp[Pt.mul]
 | inf u=>cases y with
  | fin q=>
   have:=sgn3_zero.1 (show sgn3 q=0 from h.resolve_left (by cases u<;>simp[Pt.sg]));subst this;simp[Pt.mul]
  |inf w=>rcases h with h |h<;>(revert h;cases u<;>cases w<;>simp[Pt.sg])
theorem Pt.mul_inf {x y:Pt} (hx:x.sg≠0) (hy:y.sg≠0) (h:x.side≠0∨y.side≠0):x.mul y=.inf (decide (x.sg=y.sg)):=by
 have key:∀{p:Rat},sgn3 p≠0→((0 < p∧sgn3 p=1)∨(¬0 < p∧sgn3 p= -1)):=by
  intro p hp
  have:=yB (q:=p);have:=BJ (q:=p);grind
 cases x with
 | fin p=>
  cases y with
  |fin q=>rcases h with h |h<;>exact(h rfl).elim
  | inf u=>
   have hp:p≠0:=fun k=>hx (sgn3_zero.2 k)
   show(if p=0 then Pt.fin 0 else .inf (u == decide (0 < p)))=_
   rw[if_neg hp]
   rcases key (show sgn3 p≠0 from hx) with⟨k1,k2⟩ |⟨k1,k2⟩<;>(show Pt.inf _=Pt.inf (decide (sgn3 p=_));rw[k2];simp only[k1,decide_true,decide_false];cases u<;>rfl)
 | inf u=>
  cases y with
  | fin q=>
   have hq:q≠0:=fun k=>hy (sgn3_zero.2 k)
   show(if q=0 then Pt.fin 0 else .inf (u == decide (0 < q)))=_
   rw[if_neg hq]
   rcases key (show sgn3 q≠0 from hy) with⟨k1,k2⟩ |⟨k1,k2⟩<;>(show Pt.inf _=Pt.inf (decide (_=sgn3 q));rw[k2];simp only[k1,decide_true,decide_false];cases u<;>rfl)
  |inf w=>cases u<;>cases w<;>rfl
theorem Pt.side_fin {x:Pt} (h:x.side=0):∃q,x=.fin q:=by
 cases x with
 |fin q=>exact⟨q,rfl⟩
 |inf u=>cases u<;>simp[Pt.side] at h
theorem Pt.side_bd (z:Pt):z.side= -1∨z.side=0∨z.side=1:=by
 cases z with
 |fin q=>exact .inr (.inl rfl)
 |inf u=>cases u<;>simp[Pt.side]
theorem Pt.sg_side {z:Pt} (h:z.side≠0):z.sg=z.side:=by
 cases z with
 |fin q=>exact(h rfl).elim
 |inf u=>rfl
theorem mw {h0 h:PH} [Le h0 h] {v w:Value} {x y:Pt} (hv:RePt h0 v x) (hw:RePt h0 w y) (lx:x.le (2^30)) (ly:y.le (2^30)):Spec mach 265 #[v,w] h (fun r h'=>RePt h' r (x.mul y)) NP:=by
 have k1:=fun {h} [Le h0 h]=>vA (h:=h) hv
 have k2:=fun {h} [Le h0 h]=>vA (h:=h) hw
 obtain⟨b,a1,m1,c1,a2,m2,c2,rfl,e1⟩:=hv.sa
 obtain⟨b',a1',m1',c1',a2',m2',c2',rfl,e2⟩:=hw.sa
 by_cases hz:x.sg=0∨y.sg=0
 ·rw[Pt.mul_zero hz]
  have hx:=Pt.sg_bd x
  have hy:=Pt.sg_bd y
  generalize x.sg=m at*
  generalize y.sg=n at*
  have hm:(m=0∧n= -1)∨(m=0∧n=0)∨(m=0∧n=1)∨(m= -1∧n=0)∨(m=1∧n=0):=by omega
  clear hx hy hz
  rcases hm with⟨rfl,rfl⟩ |⟨rfl,rfl⟩ |⟨rfl,rfl⟩ |⟨rfl,rfl⟩ |⟨rfl,rfl⟩<;>
  ·refine Spec.go [(1,.o [0,2,1,3,4,5])] Tryz.func265 rfl rfl (by kernel_rfl) fun C _=>?_
   try simp(disch:=omega) only[go_sem,ξ,ζ]
   refine caN (by exact k1) ?_;rintro v1 h1 s1 rfl
   try simp(disch:=omega) only[go_sem,ξ,ζ]
   refine caN (by exact k2) ?_;rintro v2 h2 s2 rfl
   try simp(disch:=omega) only[go_sem,ξ,ζ]
   exact⟨_,_,_,rfl,Qr.none _⟩
 ·have hx0:x.sg≠0:=fun k=>hz (.inl k)
  have hy0:y.sg≠0:=fun k=>hz (.inr k)
  by_cases hs:x.side≠0∨y.side≠0
  ·rw[Pt.mul_inf hx0 hy0 hs]
   have hx:=Pt.sg_bd x
   have hy:=Pt.sg_bd y
   have tx:=Pt.side_bd x
   have ty:=Pt.side_bd y
   have gx:=fun k=>Pt.sg_side (z:=x) k
   have gy:=fun k=>Pt.sg_side (z:=y) k
   have hD:∀k:Bool,∃i,(Pt.inf k).side=i:=fun k=>⟨_,rfl⟩
   generalize x.sg=m at*
   generalize y.sg=n at*
   generalize x.side=s at*
   generalize y.side=t at*
   have hm:((m=1∨m= -1)∧(n=1∨n= -1))∧((s=m∧t=0)∨(s=m∧t=n)∨(s=0∧t=n)):=by
    have:=gx;have:=gy
    refine⟨by omega,?_⟩
    rcases tx with k |k |k<;>rcases ty with k' |k' |k'<;>(try have:=gx (by omega))<;>(try have:=gy (by omega))<;>omega
   clear hx hy hz tx ty gx gy hx0 hy0 hs hD
   obtain⟨⟨rfl |rfl,rfl |rfl⟩,⟨rfl,rfl⟩ |⟨rfl,rfl⟩ |⟨rfl,rfl⟩⟩:=hm<;>
   ·refine Spec.go [(1,.o [0,2,1,3,4,5])] Tryz.func265 rfl rfl (by kernel_rfl) fun C _=>?_
    try simp(disch:=omega) only[go_sem,ξ,ζ]
    refine caN (by exact k1) ?_;rintro v1 h1 s1 rfl
    try simp(disch:=omega) only[go_sem,ξ,ζ]
    refine caN (by exact k2) ?_;rintro v2 h2 s2 rfl
    try simp(disch:=omega) only[go_sem,ξ,ζ]
    exact⟨_,_,_,rfl,Qr.none _⟩
  ·have s1:x.side=0:=Decidable.byContradiction fun k=>hs (.inl k)
   have s2:y.side=0:=Decidable.byContradiction fun k=>hs (.inr k)
   obtain⟨p,rfl⟩:=Pt.side_fin s1
   obtain⟨q,rfl⟩:=Pt.side_fin s2
   show Spec _ _ _ _ (fun r h'=>RePt h' r (.fin (p*q))) _
   have lp:sz p≤2^30:=lx
   have lq:sz q≤2^30:=ly
   have hx:=Pt.sg_bd (.fin p)
   have hy:=Pt.sg_bd (.fin q)
   dsimp only[Pt.side,Pt.val] at*
   clear hz hs s1 s2
   generalize(Pt.fin p).sg=m at*
   generalize(Pt.fin q).sg=n at*
   have hm:(m=1∨m= -1)∧(n=1∨n= -1):=by omega
   clear hx hy hx0 hy0
   obtain⟨rfl |rfl,rfl |rfl⟩:=hm<;>
   ·refine Spec.go [(1,.o [0,2,1,3,4,5])] Tryz.func265 rfl rfl (by kernel_rfl) fun C _=>?_
    try simp(disch:=omega) only[go_sem,ξ,ζ]
    refine caN (by exact k1) ?_;rintro v1 h1 s1 rfl
    try simp(disch:=omega) only[go_sem,ξ,ζ]
    refine caN (by exact k2) ?_;rintro v2 h2 s2 rfl
    try simp(disch:=omega) only[go_sem,ξ,ζ]
    refine caN (by exact IH (e1.to (h':=h2)) (e2.to (h':=h2)) (by omega) (by omega)) ?_;rintro _ h3 _ f3;obtain⟨_,_,_,_,_,_,_,rfl,f3⟩:=f3.sa
    try simp(disch:=omega) only[go_sem,ξ,ζ]
    exact⟨_,_,_,rfl,f3⟩
def Pt.bef:Pt→Pt→Bool
 |.fin p,.fin q=>decide (p < q)
 |.inf u,.inf w=>!u && w
 |.inf u,.fin _=>!u
 |.fin _,.inf u=>u
theorem ji {h0 h:PH} [Le h0 h] {v w:Value} {x y:Pt} (hv:RePt h0 v x) (hw:RePt h0 w y) (lx:x.le (2^30)) (ly:y.le (2^30)):Spec mach 266 #[v,w] h (fun r _=>r=.bool (x.bef y)) NP:=by
 obtain⟨b,a1,m1,c1,a2,m2,c2,rfl,e1⟩:=hv.sa
 obtain⟨b',a1',m1',c1',a2',m2',c2',rfl,e2⟩:=hw.sa
 cases x with
 | fin p=>
  cases y with
  | fin q=>
   have lp:sz p≤2^30:=lx
   have lq:sz q≤2^30:=ly
   dsimp only[Pt.side,Pt.bef,Pt.val] at*
   by_cases hc:p < q
   ·have e3:cmpQ p q < 0:=by unfold cmpQ;grind
    rw[decide_eq_true hc]
    refine Spec.go [] Tryz.func266 rfl rfl (by kernel_rfl) fun C _=>?_
    try simp(disch:=omega) only[go_sem,ξ,ζ]
    refine caN (by exact av e1 e2 (by omega) (by omega)) ?_;rintro v1 h1 s1 rfl
    try simp(disch:=omega) only[go_sem,ξ,ζ]
   ·have e3:¬cmpQ p q < 0:=by unfold cmpQ;grind
    rw[decide_eq_false hc]
    refine Spec.go [] Tryz.func266 rfl rfl (by kernel_rfl) fun C _=>?_
    try simp(disch:=omega) only[go_sem,ξ,ζ]
    refine caN (by exact av e1 e2 (by omega) (by omega)) ?_;rintro v1 h1 s1 rfl
    try simp(disch:=omega) only[go_sem,ξ,ζ]
  | inf u=>
   cases u<;>
   ·dsimp only[Pt.side,Pt.bef,Pt.val] at*
    simp only[if_true,if_false,qAw,reduceIte]
    refine Spec.go [] Tryz.func266 rfl rfl (by kernel_rfl) fun C _=>?_
    try simp(disch:=omega) only[go_sem,ξ,ζ]
    try rfl
 | inf u=>
  cases y with
  | fin q=>
   cases u<;>
   ·dsimp only[Pt.side,Pt.bef,Pt.val] at*
    simp only[if_true,if_false,qAw,reduceIte]
    refine Spec.go [] Tryz.func266 rfl rfl (by kernel_rfl) fun C _=>?_
    try simp(disch:=omega) only[go_sem,ξ,ζ]
    try rfl
  | inf w=>
   cases u<;>cases w<;>
   ·dsimp only[Pt.side,Pt.bef,Pt.val] at*
    simp only[if_true,if_false,qAw,reduceIte]
    refine Spec.go [] Tryz.func266 rfl rfl (by kernel_rfl) fun C _=>?_
    try simp(disch:=omega) only[go_sem,ξ,ζ]
    try rfl
theorem Gn {h0 h:PH} [Le h0 h] {v:Value} {a b:Option Rat} (hv:Rr h0 v (.i a b)):Spec mach 264 #[v] h (fun r h'=>∃b1 a1 m1 c1 a2 m2 c2 b2 a3 m3 c3 a4 m4 c4,r=.agg #[.int .i64 (lowP a).side,.bool b1,.slice a1 m1 c1,.slice a2 m2 c2,.int .i64 (highP b).side,.bool b2,.slice a3 m3 c3,.slice a4 m4 c4]∧
  RePt h' (.agg #[.int .i64 (lowP a).side,.bool b1,.slice a1 m1 c1,.slice a2 m2 c2]) (lowP a)∧RePt h' (.agg #[.int .i64 (highP b).side,.bool b2,.slice a3 m3 c3,.slice a4 m4 c4]) (highP b)) NP:=by
 obtain⟨_,_,_,_,_,_,_,_,_,_,_,_,_,_,rfl,t1,t2⟩:=hv.sa
 dsimp only[NS.void,NS.loN,NS.hiN,NS.lo0,NS.hi0] at*
 cases a<;>cases b<;>
 ·dsimp only[Option.isNone,Option.getD] at*
  refine Spec.go [] Tryz.func264 rfl rfl (by kernel_rfl) fun C _=>?_
  try simp(disch:=omega) only[go_sem,ξ,ζ,Nat.reduceMul,Nat.zero_mul,Nat.zero_add,Int.toNat_one,qBm]
  exact⟨_,_,_,_,_,_,_,_,_,_,_,_,_,_,rfl,⟨_,_,_,rfl,by first |exact t1.to |exact Qr.none _⟩,⟨_,_,_,rfl,by first |exact t2.to |exact Qr.none _⟩⟩
def rlow (o:NS×Bool×Bool):Pt:=bif o.2.1 then .inf false else match o.1 with
 |.e=>.inf true
 |.i (some a) _=>.fin a
 |.i none _=>.inf false
def rhigh (o:NS×Bool×Bool):Pt:=bif o.2.2 then .inf true else match o.1 with
 |.e=>.inf false
 |.i _ (some b)=>.fin b
 |.i _ none=>.inf true
theorem tJ {o:NS×Bool×Bool} {z:Pt} (ho:o.1=.e∨∃a b,o.1=.i (some a) (some b)):rlow (stp o z)=bif z.bef (rlow o) then z else rlow o:=by
 obtain⟨s,l,u⟩:=o
 rcases ho with e |⟨a,b,e⟩<;>(dsimp only at e;subst e)<;>cases z with
 | fin q=>cases l with
  |true=>rfl
  |false=>first |rfl |(show Pt.fin (min a q)=bif decide (q < a) then .fin q else .fin a;by_cases h:q < a<;>simp only[h,decide_true,decide_false,cond_true,cond_false]<;>congr 1<;>grind)
 |inf v=>cases v<;>cases l<;>rfl
theorem qW {o:NS×Bool×Bool} {z:Pt} (ho:o.1=.e∨∃a b,o.1=.i (some a) (some b)):rhigh (stp o z)=bif (rhigh o).bef z then z else rhigh o:=by
 obtain⟨s,l,u⟩:=o
 rcases ho with e |⟨a,b,e⟩<;>(dsimp only at e;subst e)<;>cases z with
 | fin q=>cases u with
  |true=>rfl
  |false=>first |rfl |(show Pt.fin (max b q)=bif decide (b < q) then .fin q else .fin b;by_cases h:b < q<;>simp only[h,decide_true,decide_false,cond_true,cond_false]<;>congr 1<;>grind)
 |inf v=>cases v<;>cases u<;>rfl
theorem wz {o:NS×Bool×Bool} {k:Nat} (h:NS.pts k o):(rlow o).le k:=by
 obtain⟨s,l,u⟩:=o
 obtain⟨_,h2,h3⟩:=h
 dsimp only at h2 h3
 cases l with
 |true=>trivial
 | false=>
  rcases h3 with e |⟨a,b,e⟩<;>subst e
  ·trivial
  ·exact((NS.le_i).1 h2).1 a rfl
theorem tI {o:NS×Bool×Bool} {k:Nat} (h:NS.pts k o):(rhigh o).le k:=by
 obtain⟨s,l,u⟩:=o
 obtain⟨_,h2,h3⟩:=h
 dsimp only at h2 h3
 cases u with
 |true=>trivial
 | false=>
  rcases h3 with e |⟨a,b,e⟩<;>subst e
  ·trivial
  ·exact((NS.le_i).1 h2).2 b rfl
end Go.Q
