/-
  Contracts of package interval, and what stands on it. Conditions: each theorem's own.
-/
import Derived.Test.YtdhfkmaejkgceaaGreatDoorKd61942PkG
import Derived.Test.YtdhfkmaejkgceaaGreatDoorK5f1229PkO
import Derived.Test.YtdhfkmaejkgceaaGreatDoorK944a42PkN
import Derived.Shelf.Abstract
import Derived.WalkKit
import Derived.OwnWalkIn
import Derived.TacticsInMore
import Derived.LoopNIn
import Derived.LoopIn
set_option linter.unusedVariables false
set_option linter.unusedSimpArgs false
open Nat renaming reduceBEq→ξ,reduceAdd→ζ,le_trans→χ,le_refl→η,one_mul→qBm
open Bool renaming false_eq_true→qAw
namespace Go.Q
open Go.Proofs
set_option maxRecDepth 100000
set_option maxHeartbeats 16000000
theorem NS.le30' {x:NS} (h:x.le 4096):x.le (2^30):=h.up (by decide)
theorem Pt.up {z:Pt} {k m:Nat} (h:z.le k) (hm:k≤m):z.le m:=by
 cases z with
 |fin q=>exact χ h hm
 |inf u=>trivial
theorem qR {a:Option Rat} {k:Nat} (h:∀q,a=some q→sz q≤k):(lowP a).le k:=by
 cases a with
 |none=>trivial
 |some q=>exact h q rfl
theorem og {a:Option Rat} {k:Nat} (h:∀q,a=some q→sz q≤k):(highP a).le k:=by
 cases a with
 |none=>trivial
 |some q=>exact h q rfl
theorem Ao {h0 h:PH} [Le h0 h] {v w:Value} {a b c d:Option Rat} (hs:Sn h0 v (.i a b)) (ht:Sn h0 w (.i c d)) (ls:(NS.i a b).le 2048) (lt:(NS.i c d).le 2048):
    Spec mach 126 #[v,w] h (fun v h'=>Sn h' v ((NS.i a b).prod (.i c d))) NP:=by
  rw[NS.le_i] at ls lt
  have la0:=qR ls.1
  have lb0:=og ls.2
  have lc0:=qR lt.1
  have ld0:=og lt.2
  have la:=Pt.up (m:=2^30) la0 (by decide)
  have lb:=Pt.up (m:=2^30) lb0 (by decide)
  have lc:=Pt.up (m:=2^30) lc0 (by decide)
  have ld:=Pt.up (m:=2^30) ld0 (by decide)
  have kA:=fun {h} [Le h0 h]=>y8 (h:=h) hs
  have kB:=fun {h} [Le h0 h]=>y8 (h:=h) ht
  have he:=wr (a:=a) (b:=b) (c:=c) (d:=d)
  obtain⟨b1,a1,m1,c1,a2,m2,c2,b2,a3,m3,c3,a4,m4,c4,rfl,_,_⟩:=hs.ie
  obtain⟨b1',a1',m1',c1',a2',m2',c2',b2',a3',m3',c3',a4',m4',c4',rfl,_,_⟩:=ht.ie
  show Spec _ _ _ _ (fun v h'=>Sn h' v (fin3 (outer (lowP a) (highP b) (lowP c) (highP d) 2))) _
  generalize lowP a=x1 at*
  generalize highP b=x2 at*
  generalize lowP c=y1 at*
  generalize highP d=y2 at*
  refine Spec.go [] Tryz.func126 rfl rfl (by kernel_rfl) fun C _=>?_
  try simp(maxSteps:=999999) (disch:=omega) only[go_sem,ξ,ζ,Int.toNat_one,Nat.zero_mul,qBm,Nat.zero_add,List.set_cons_zero,List.set_cons_succ]
  refine caN (by exact kA) ?_;rintro w1 h1 s1 zz1;obtain⟨p1,p2,p3,p4,p5,p6,p7,q1,q2,q3,q4,q5,q6,q7,rfl,ea,eb⟩:=zz1
  try simp(maxSteps:=999999) (disch:=omega) only[go_sem,ξ,ζ,Int.toNat_one,Nat.zero_mul,qBm,Nat.zero_add,List.set_cons_zero,List.set_cons_succ]
  refine lpSl [] (fun x:Nat×List Value×Bool×Bool=>⟨[(3,.p 1 0),(4,.p 2 0),(5,.p 3 0),(6,.v (.bool x.2.2.1)),(7,.v (.bool x.2.2.2)),(15,.v (.agg #[.bool p1,.slice p2 p3 p4,.slice p5 p6 p7,.int .i64 x1.side,.bool q1,.slice q2 q3 q4,.slice q5 q6 q7,.int .i64 x2.side])),(16,.v (.int .i64 x.1))],[[.bool b1,.slice a1 m1 c1,.slice a2 m2 c2,.bool b2,.slice a3 m3 c3,.slice a4 m4 c4,.bool a.isNone,.bool b.isNone,.bool false],[.bool b1',.slice a1' m1' c1',.slice a2' m2' c2',.bool b2',.slice a3' m3' c3',.slice a4' m4' c4',.bool c.isNone,.bool d.isNone,.bool false],[.bool false,.slice none 0 0,.slice none 0 0,.bool false,.slice none 0 0,.slice none 0 0,.bool false,.bool false,.bool false],x.2.1]⟩) (fun x h'=>Le h1 h'∧x.1≤2∧∃J,Sn h' (.agg x.2.1.toArray) J∧NS.pts 4096 (J,x.2.2.1,x.2.2.2)∧outer x1 x2 y1 y2 x.1=(J,x.2.2.1,x.2.2.2)) (fun x=>2 - x.1) (0,[.bool false,.slice none 0 0,.slice none 0 0,.bool false,.slice none 0 0,.slice none 0 0,.bool false,.bool false,.bool true],false,false) [0,1,2,3] ?_ ⟨inferInstance,by decide,.e,⟨_,_,_,_,_,_,_,_,rfl,En.nil _,En.nil _⟩,⟨trivial,rfl,.inl rfl⟩,rfl⟩ (by kernel_rfl) ?_
  · try simp(maxSteps:=999999) (disch:=omega) only[go_sem,ξ,ζ,aJ,Int.toNat_one,Nat.zero_mul,qBm,Nat.zero_add,List.set_cons_zero,List.set_cons_succ]
  rintro⟨i,cs,lo,hi⟩ h2 ⟨le2,hi2,J,hJ,hpt,hacc⟩
  have leh:Le h0 h2:=Le.tr inferInstance le2
  dsimp only at*
  obtain⟨g1,g2,g3,g4,g5,g6,g7,g8,g9,ga,gb,gc,gd,ge,gl,gu,gv,rfl⟩:∃g1 g2 g3 g4 g5 g6 g7 g8 g9 ga gb gc gd ge gl gu gv,cs=[.bool g1,.slice g2 g3 g4,.slice g5 g6 g7,.bool g8,.slice g9 ga gb,.slice gc gd ge,.bool gl,.bool gu,.bool gv]:=by
    obtain⟨_,_,_,_,_,_,_,_,_,_,_,_,_,_,_,_,e,_⟩:=hJ.sa
    simp only[Value.agg.injEq,Array.mk.injEq] at e
    exact⟨_,_,_,_,_,_,_,_,_,_,_,_,_,_,_,_,_,e⟩
  obtain rfl |rfl |rfl:i=2∨i=0∨i=1:=by omega
  · rw[hacc] at he
    try simp(maxSteps:=999999) (disch:=omega) only[go_sem,ξ,ζ,Int.toNat_one,Nat.zero_mul,qBm,Nat.zero_add,List.set_cons_zero,List.set_cons_succ]
    rw[hacc]
    cases J with
    | e=>
      obtain⟨rfl,rfl⟩:lo=true∧hi=true:=by have:=he rfl;simpa using this
      obtain⟨_,_,_,_,_,_,_,_,e,j1,j2⟩:=hJ
      simp only[Value.agg.injEq,Array.mk.injEq,List.cons.injEq,and_true,Value.bool.injEq] at e
      obtain⟨rfl,rfl,rfl,rfl,rfl,rfl,_⟩:=e
      exact⟨_,_,_,_,_,_,rfl,j1,j2⟩
    | i l u=>
      obtain⟨_,_,_,_,_,_,e,j1,j2⟩:=hJ
      simp only[Value.agg.injEq,Array.mk.injEq,List.cons.injEq,and_true,Value.bool.injEq] at e
      obtain⟨rfl,rfl,rfl,rfl,rfl,rfl,_⟩:=e
      obtain⟨l,u,e⟩:=hpt.2.2.resolve_left (fun k=>by cases k)
      cases e
      cases lo<;>cases hi<;>exact⟨_,_,_,_,_,_,rfl,by first |exact j1 |exact j1.junk,by first |exact j2 |exact j2.junk⟩
  · try simp(maxSteps:=999999) (disch:=omega) only[go_sem,ξ,ζ,Int.toNat_one,Nat.zero_mul,qBm,Nat.zero_add,List.set_cons_zero,List.set_cons_succ]
    refine caN (by exact kB) ?_;rintro w3 h3 s3 zz3;obtain⟨r1,r2,r3,r4,r5,r6,r7,t1,t2,t3,t4,t5,t6,t7,rfl,ec,ed⟩:=zz3
    try simp(maxSteps:=999999) (disch:=omega) only[go_sem,ξ,ζ,Int.toNat_one,Nat.zero_mul,qBm,Nat.zero_add,List.set_cons_zero,List.set_cons_succ]
    have eX:=ea.to (h':=h3)
    have hO:outer x1 x2 y1 y2 (0+1)=inn x1 y1 y2 (J,lo,hi) 2:=by rw[←hacc];rfl
    have lX:x1.le (2^30):=la
    have lX0:x1.le 2048:=la0
    obtain⟨o,ho⟩:∃o,(J,lo,hi)=o:=⟨_,rfl⟩
    rw[ho] at hO
    refine lpSl [] (fun x:Nat×List Value×Bool×Bool=>⟨[(3,.p 1 0),(4,.p 2 0),(5,.p 3 0),(6,.v (.bool x.2.2.1)),(7,.v (.bool x.2.2.2)),(9,.p 4 0),(15,.v (.agg #[.bool p1,.slice p2 p3 p4,.slice p5 p6 p7,.int .i64 x1.side,.bool q1,.slice q2 q3 q4,.slice q5 q6 q7,.int .i64 x2.side])),(16,.v (.int .i64 0)),(20,.v (.agg #[.bool r1,.slice r2 r3 r4,.slice r5 r6 r7,.int .i64 y1.side,.bool t1,.slice t2 t3 t4,.slice t5 t6 t7,.int .i64 y2.side])),(21,.v (.int .i64 x.1))],[[.bool b1,.slice a1 m1 c1,.slice a2 m2 c2,.bool b2,.slice a3 m3 c3,.slice a4 m4 c4,.bool a.isNone,.bool b.isNone,.bool false],[.bool b1',.slice a1' m1' c1',.slice a2' m2' c2',.bool b2',.slice a3' m3' c3',.slice a4' m4' c4',.bool c.isNone,.bool d.isNone,.bool false],[.bool false,.slice none 0 0,.slice none 0 0,.bool false,.slice none 0 0,.slice none 0 0,.bool false,.bool false,.bool false],x.2.1,[.bool p1,.slice p2 p3 p4,.slice p5 p6 p7,.int .i64 x1.side]]⟩) (fun x h'=>Le h3 h'∧x.1≤2∧∃J,Sn h' (.agg x.2.1.toArray) J∧NS.pts 4096 (J,x.2.2.1,x.2.2.2)∧inn x1 y1 y2 o x.1=(J,x.2.2.1,x.2.2.2)) (fun x=>2 - x.1) (0,_,lo,hi) [0,1,2,3,4] ?_ ⟨inferInstance,(show 0≤2 by decide),J,hJ.to (h':=h3),hpt,ho.symm⟩ (by kernel_rfl) ?_
    · try simp(maxSteps:=999999) (disch:=omega) only[go_sem,ξ,ζ,aJ,Int.toNat_one,Nat.zero_mul,qBm,Nat.zero_add,List.set_cons_zero,List.set_cons_succ]
    clear hJ hpt hacc ho
    rintro⟨j,cs,lo,hi⟩ h4 ⟨le4,hj,J,hJ,hpt,hacc⟩
    dsimp only at*
    generalize hX:x1=X at*
    obtain⟨k1,k2,k3,k4,k5,k6,k7,k8,k9,ka,kb,kc,kd,ke,kl,ku,kv,rfl⟩:∃k1 k2 k3 k4 k5 k6 k7 k8 k9 ka kb kc kd ke kl ku kv,cs=[.bool k1,.slice k2 k3 k4,.slice k5 k6 k7,.bool k8,.slice k9 ka kb,.slice kc kd ke,.bool kl,.bool ku,.bool kv]:=by
      obtain⟨_,_,_,_,_,_,_,_,_,_,_,_,_,_,_,_,e,_⟩:=hJ.sa
      simp only[Value.agg.injEq,Array.mk.injEq] at e
      exact⟨_,_,_,_,_,_,_,_,_,_,_,_,_,_,_,_,_,e⟩
    obtain rfl |rfl |rfl:j=2∨j=0∨j=1:=by omega
    · try simp(maxSteps:=999999) (disch:=omega) only[go_sem,ξ,ζ,Int.toNat_one,Nat.zero_mul,qBm,Nat.zero_add,List.set_cons_zero,List.set_cons_succ]
      dsimp only[lpS];refine⟨(0+1,_,lo,hi),[0,1,2,3],?_,⟨Le.tr le2 (Le.tr inferInstance le4),(show 0+1≤2 by decide),J,hJ,hpt,by rw[hO];exact hacc⟩,(show 2 - (0+1) < 2 - 0 by decide)⟩
      try simp(maxSteps:=999999) (disch:=omega) only[go_sem,ξ,ζ,aJ,Int.toNat_one,Nat.zero_mul,qBm,Nat.zero_add,List.set_cons_zero,List.set_cons_succ]
      all_goals rfl
    · try simp(maxSteps:=999999) (disch:=omega) only[go_sem,ξ,ζ,Int.toNat_one,Nat.zero_mul,qBm,Nat.zero_add,List.set_cons_zero,List.set_cons_succ]
      refine caN (by exact pc (eX.to (h':=h4)) (ec.to (h':=h4)) lX lc) ?_;rintro w5 h5 s5 zz5;obtain⟨f1,f2,f3,f4,f5,f6,f7,rfl,zz5c⟩:=zz5.sa
      try simp(maxSteps:=999999) (disch:=omega) only[go_sem,ξ,ζ,Int.toNat_one,Nat.zero_mul,qBm,Nat.zero_add,List.set_cons_zero,List.set_cons_succ]
      have lz:=lU lX0 lc0 (by decide)
      have hz:inn X y1 y2 o (0+1)=stp (J,lo,hi) (X.mul y1):=by rw[←hacc];rfl
      generalize X.mul y1=z at*
      cases z with
      | fin q=>
        dsimp only[Pt.side] at*
        try simp(maxSteps:=999999) (disch:=omega) only[go_sem,ξ,ζ,Int.toNat_one,Nat.zero_mul,qBm,Nat.zero_add,List.set_cons_zero,List.set_cons_succ]
        refine caN (by exact qU zz5c.num) ?_;rintro _ h6 _ zz6;obtain⟨_,_,_,_,_,_,_,_,_,_,_,_,_,_,_,_,rfl,zz6⟩:=zz6.sa
        try simp(maxSteps:=999999) (disch:=omega) only[go_sem,ξ,ζ,Int.toNat_one,Nat.zero_mul,qBm,Nat.zero_add,List.set_cons_zero,List.set_cons_succ]
        refine caN (by exact mS (hJ.to (h':=h6)) zz6 (NS.le30' hpt.2.1) (NS.le30' (le_pt lz))) ?_;rintro _ h7 _ zz7;obtain⟨_,_,_,_,_,_,_,_,_,_,_,_,_,_,_,_,rfl,zz7⟩:=zz7.sa
        try simp(maxSteps:=999999) (disch:=omega) only[go_sem,ξ,ζ,Int.toNat_one,Nat.zero_mul,qBm,Nat.zero_add,List.set_cons_zero,List.set_cons_succ]
        dsimp only[lpS];refine⟨(0+1,_,lo,hi),[0,1,2,3,4],?_,⟨inferInstance,(show 0+1≤2 by decide),_,zz7,ja (z:=.fin q) hpt lz,hz⟩,(show 2 - (0+1) < 2 - 0 by decide)⟩
        try simp(maxSteps:=999999) (disch:=omega) only[go_sem,ξ,ζ,aJ,Int.toNat_one,Nat.zero_mul,qBm,Nat.zero_add,List.set_cons_zero,List.set_cons_succ]
        all_goals rfl
      | inf up=>
        cases up with
        | true=>
          dsimp only[Pt.side] at*
          simp only[if_true,if_false,qAw,reduceIte] at*
          try simp(maxSteps:=999999) (disch:=omega) only[go_sem,ξ,ζ,Int.toNat_one,Nat.zero_mul,qBm,Nat.zero_add,List.set_cons_zero,List.set_cons_succ]
          dsimp only[lpS];refine⟨(0+1,_,lo,true),[0,1,2,3,4],?_,⟨inferInstance,(show 0+1≤2 by decide),_,hJ.to (h':=h5),hpt,hz⟩,(show 2 - (0+1) < 2 - 0 by decide)⟩
          try simp(maxSteps:=999999) (disch:=omega) only[go_sem,ξ,ζ,aJ,Int.toNat_one,Nat.zero_mul,qBm,Nat.zero_add,List.set_cons_zero,List.set_cons_succ]
          all_goals rfl
        | false=>
          dsimp only[Pt.side] at*
          simp only[if_true,if_false,qAw,reduceIte] at*
          try simp(maxSteps:=999999) (disch:=omega) only[go_sem,ξ,ζ,Int.toNat_one,Nat.zero_mul,qBm,Nat.zero_add,List.set_cons_zero,List.set_cons_succ]
          dsimp only[lpS];refine⟨(0+1,_,true,hi),[0,1,2,3,4],?_,⟨inferInstance,(show 0+1≤2 by decide),_,hJ.to (h':=h5),hpt,hz⟩,(show 2 - (0+1) < 2 - 0 by decide)⟩
          try simp(maxSteps:=999999) (disch:=omega) only[go_sem,ξ,ζ,aJ,Int.toNat_one,Nat.zero_mul,qBm,Nat.zero_add,List.set_cons_zero,List.set_cons_succ]
          all_goals rfl
    · try simp(maxSteps:=999999) (disch:=omega) only[go_sem,ξ,ζ,Int.toNat_one,Nat.zero_mul,qBm,Nat.zero_add,List.set_cons_zero,List.set_cons_succ]
      refine caN (by exact pc (eX.to (h':=h4)) (ed.to (h':=h4)) lX ld) ?_;rintro w5 h5 s5 zz5;obtain⟨f1,f2,f3,f4,f5,f6,f7,rfl,zz5c⟩:=zz5.sa
      try simp(maxSteps:=999999) (disch:=omega) only[go_sem,ξ,ζ,Int.toNat_one,Nat.zero_mul,qBm,Nat.zero_add,List.set_cons_zero,List.set_cons_succ]
      have lz:=lU lX0 ld0 (by decide)
      have hz:inn X y1 y2 o (1+1)=stp (J,lo,hi) (X.mul y2):=by rw[←hacc];rfl
      generalize X.mul y2=z at*
      cases z with
      | fin q=>
        dsimp only[Pt.side] at*
        try simp(maxSteps:=999999) (disch:=omega) only[go_sem,ξ,ζ,Int.toNat_one,Nat.zero_mul,qBm,Nat.zero_add,List.set_cons_zero,List.set_cons_succ]
        refine caN (by exact qU zz5c.num) ?_;rintro _ h6 _ zz6;obtain⟨_,_,_,_,_,_,_,_,_,_,_,_,_,_,_,_,rfl,zz6⟩:=zz6.sa
        try simp(maxSteps:=999999) (disch:=omega) only[go_sem,ξ,ζ,Int.toNat_one,Nat.zero_mul,qBm,Nat.zero_add,List.set_cons_zero,List.set_cons_succ]
        refine caN (by exact mS (hJ.to (h':=h6)) zz6 (NS.le30' hpt.2.1) (NS.le30' (le_pt lz))) ?_;rintro _ h7 _ zz7;obtain⟨_,_,_,_,_,_,_,_,_,_,_,_,_,_,_,_,rfl,zz7⟩:=zz7.sa
        try simp(maxSteps:=999999) (disch:=omega) only[go_sem,ξ,ζ,Int.toNat_one,Nat.zero_mul,qBm,Nat.zero_add,List.set_cons_zero,List.set_cons_succ]
        dsimp only[lpS];refine⟨(1+1,_,lo,hi),[0,1,2,3,4],?_,⟨inferInstance,(show 1+1≤2 by decide),_,zz7,ja (z:=.fin q) hpt lz,hz⟩,(show 2 - (1+1) < 2 - 1 by decide)⟩
        try simp(maxSteps:=999999) (disch:=omega) only[go_sem,ξ,ζ,aJ,Int.toNat_one,Nat.zero_mul,qBm,Nat.zero_add,List.set_cons_zero,List.set_cons_succ]
        all_goals rfl
      | inf up=>
        cases up with
        | true=>
          dsimp only[Pt.side] at*
          simp only[if_true,if_false,qAw,reduceIte] at*
          try simp(maxSteps:=999999) (disch:=omega) only[go_sem,ξ,ζ,Int.toNat_one,Nat.zero_mul,qBm,Nat.zero_add,List.set_cons_zero,List.set_cons_succ]
          dsimp only[lpS];refine⟨(1+1,_,lo,true),[0,1,2,3,4],?_,⟨inferInstance,(show 1+1≤2 by decide),_,hJ.to (h':=h5),hpt,hz⟩,(show 2 - (1+1) < 2 - 1 by decide)⟩
          try simp(maxSteps:=999999) (disch:=omega) only[go_sem,ξ,ζ,aJ,Int.toNat_one,Nat.zero_mul,qBm,Nat.zero_add,List.set_cons_zero,List.set_cons_succ]
          all_goals rfl
        | false=>
          dsimp only[Pt.side] at*
          simp only[if_true,if_false,qAw,reduceIte] at*
          try simp(maxSteps:=999999) (disch:=omega) only[go_sem,ξ,ζ,Int.toNat_one,Nat.zero_mul,qBm,Nat.zero_add,List.set_cons_zero,List.set_cons_succ]
          dsimp only[lpS];refine⟨(1+1,_,true,hi),[0,1,2,3,4],?_,⟨inferInstance,(show 1+1≤2 by decide),_,hJ.to (h':=h5),hpt,hz⟩,(show 2 - (1+1) < 2 - 1 by decide)⟩
          try simp(maxSteps:=999999) (disch:=omega) only[go_sem,ξ,ζ,aJ,Int.toNat_one,Nat.zero_mul,qBm,Nat.zero_add,List.set_cons_zero,List.set_cons_succ]
          all_goals rfl
  · try simp(maxSteps:=999999) (disch:=omega) only[go_sem,ξ,ζ,Int.toNat_one,Nat.zero_mul,qBm,Nat.zero_add,List.set_cons_zero,List.set_cons_succ]
    refine caN (by exact kB) ?_;rintro w3 h3 s3 zz3;obtain⟨r1,r2,r3,r4,r5,r6,r7,t1,t2,t3,t4,t5,t6,t7,rfl,ec,ed⟩:=zz3
    try simp(maxSteps:=999999) (disch:=omega) only[go_sem,ξ,ζ,Int.toNat_one,Nat.zero_mul,qBm,Nat.zero_add,List.set_cons_zero,List.set_cons_succ]
    have eX:=eb.to (h':=h3)
    have hO:outer x1 x2 y1 y2 (1+1)=inn x2 y1 y2 (J,lo,hi) 2:=by rw[←hacc];rfl
    have lX:x2.le (2^30):=lb
    have lX0:x2.le 2048:=lb0
    obtain⟨o,ho⟩:∃o,(J,lo,hi)=o:=⟨_,rfl⟩
    rw[ho] at hO
    refine lpSl [] (fun x:Nat×List Value×Bool×Bool=>⟨[(3,.p 1 0),(4,.p 2 0),(5,.p 3 0),(6,.v (.bool x.2.2.1)),(7,.v (.bool x.2.2.2)),(9,.p 4 0),(15,.v (.agg #[.bool p1,.slice p2 p3 p4,.slice p5 p6 p7,.int .i64 x1.side,.bool q1,.slice q2 q3 q4,.slice q5 q6 q7,.int .i64 x2.side])),(16,.v (.int .i64 1)),(20,.v (.agg #[.bool r1,.slice r2 r3 r4,.slice r5 r6 r7,.int .i64 y1.side,.bool t1,.slice t2 t3 t4,.slice t5 t6 t7,.int .i64 y2.side])),(21,.v (.int .i64 x.1))],[[.bool b1,.slice a1 m1 c1,.slice a2 m2 c2,.bool b2,.slice a3 m3 c3,.slice a4 m4 c4,.bool a.isNone,.bool b.isNone,.bool false],[.bool b1',.slice a1' m1' c1',.slice a2' m2' c2',.bool b2',.slice a3' m3' c3',.slice a4' m4' c4',.bool c.isNone,.bool d.isNone,.bool false],[.bool false,.slice none 0 0,.slice none 0 0,.bool false,.slice none 0 0,.slice none 0 0,.bool false,.bool false,.bool false],x.2.1,[.bool q1,.slice q2 q3 q4,.slice q5 q6 q7,.int .i64 x2.side]]⟩) (fun x h'=>Le h3 h'∧x.1≤2∧∃J,Sn h' (.agg x.2.1.toArray) J∧NS.pts 4096 (J,x.2.2.1,x.2.2.2)∧inn x2 y1 y2 o x.1=(J,x.2.2.1,x.2.2.2)) (fun x=>2 - x.1) (0,_,lo,hi) [0,1,2,3,4] ?_ ⟨inferInstance,(show 0≤2 by decide),J,hJ.to (h':=h3),hpt,ho.symm⟩ (by kernel_rfl) ?_
    · try simp(maxSteps:=999999) (disch:=omega) only[go_sem,ξ,ζ,aJ,Int.toNat_one,Nat.zero_mul,qBm,Nat.zero_add,List.set_cons_zero,List.set_cons_succ]
    clear hJ hpt hacc ho
    rintro⟨j,cs,lo,hi⟩ h4 ⟨le4,hj,J,hJ,hpt,hacc⟩
    dsimp only at*
    generalize hX:x2=X at*
    obtain⟨k1,k2,k3,k4,k5,k6,k7,k8,k9,ka,kb,kc,kd,ke,kl,ku,kv,rfl⟩:∃k1 k2 k3 k4 k5 k6 k7 k8 k9 ka kb kc kd ke kl ku kv,cs=[.bool k1,.slice k2 k3 k4,.slice k5 k6 k7,.bool k8,.slice k9 ka kb,.slice kc kd ke,.bool kl,.bool ku,.bool kv]:=by
      obtain⟨_,_,_,_,_,_,_,_,_,_,_,_,_,_,_,_,e,_⟩:=hJ.sa
      simp only[Value.agg.injEq,Array.mk.injEq] at e
      exact⟨_,_,_,_,_,_,_,_,_,_,_,_,_,_,_,_,_,e⟩
    obtain rfl |rfl |rfl:j=2∨j=0∨j=1:=by omega
    · try simp(maxSteps:=999999) (disch:=omega) only[go_sem,ξ,ζ,Int.toNat_one,Nat.zero_mul,qBm,Nat.zero_add,List.set_cons_zero,List.set_cons_succ]
      dsimp only[lpS];refine⟨(1+1,_,lo,hi),[0,1,2,3],?_,⟨Le.tr le2 (Le.tr inferInstance le4),(show 1+1≤2 by decide),J,hJ,hpt,by rw[hO];exact hacc⟩,(show 2 - (1+1) < 2 - 1 by decide)⟩
      try simp(maxSteps:=999999) (disch:=omega) only[go_sem,ξ,ζ,aJ,Int.toNat_one,Nat.zero_mul,qBm,Nat.zero_add,List.set_cons_zero,List.set_cons_succ]
      all_goals rfl
    · try simp(maxSteps:=999999) (disch:=omega) only[go_sem,ξ,ζ,Int.toNat_one,Nat.zero_mul,qBm,Nat.zero_add,List.set_cons_zero,List.set_cons_succ]
      refine caN (by exact pc (eX.to (h':=h4)) (ec.to (h':=h4)) lX lc) ?_;rintro w5 h5 s5 zz5;obtain⟨f1,f2,f3,f4,f5,f6,f7,rfl,zz5c⟩:=zz5.sa
      try simp(maxSteps:=999999) (disch:=omega) only[go_sem,ξ,ζ,Int.toNat_one,Nat.zero_mul,qBm,Nat.zero_add,List.set_cons_zero,List.set_cons_succ]
      have lz:=lU lX0 lc0 (by decide)
      have hz:inn X y1 y2 o (0+1)=stp (J,lo,hi) (X.mul y1):=by rw[←hacc];rfl
      generalize X.mul y1=z at*
      cases z with
      | fin q=>
        dsimp only[Pt.side] at*
        try simp(maxSteps:=999999) (disch:=omega) only[go_sem,ξ,ζ,Int.toNat_one,Nat.zero_mul,qBm,Nat.zero_add,List.set_cons_zero,List.set_cons_succ]
        refine caN (by exact qU zz5c.num) ?_;rintro _ h6 _ zz6;obtain⟨_,_,_,_,_,_,_,_,_,_,_,_,_,_,_,_,rfl,zz6⟩:=zz6.sa
        try simp(maxSteps:=999999) (disch:=omega) only[go_sem,ξ,ζ,Int.toNat_one,Nat.zero_mul,qBm,Nat.zero_add,List.set_cons_zero,List.set_cons_succ]
        refine caN (by exact mS (hJ.to (h':=h6)) zz6 (NS.le30' hpt.2.1) (NS.le30' (le_pt lz))) ?_;rintro _ h7 _ zz7;obtain⟨_,_,_,_,_,_,_,_,_,_,_,_,_,_,_,_,rfl,zz7⟩:=zz7.sa
        try simp(maxSteps:=999999) (disch:=omega) only[go_sem,ξ,ζ,Int.toNat_one,Nat.zero_mul,qBm,Nat.zero_add,List.set_cons_zero,List.set_cons_succ]
        dsimp only[lpS];refine⟨(0+1,_,lo,hi),[0,1,2,3,4],?_,⟨inferInstance,(show 0+1≤2 by decide),_,zz7,ja (z:=.fin q) hpt lz,hz⟩,(show 2 - (0+1) < 2 - 0 by decide)⟩
        try simp(maxSteps:=999999) (disch:=omega) only[go_sem,ξ,ζ,aJ,Int.toNat_one,Nat.zero_mul,qBm,Nat.zero_add,List.set_cons_zero,List.set_cons_succ]
        all_goals rfl
      | inf up=>
        cases up with
        | true=>
          dsimp only[Pt.side] at*
          simp only[if_true,if_false,qAw,reduceIte] at*
          try simp(maxSteps:=999999) (disch:=omega) only[go_sem,ξ,ζ,Int.toNat_one,Nat.zero_mul,qBm,Nat.zero_add,List.set_cons_zero,List.set_cons_succ]
          dsimp only[lpS];refine⟨(0+1,_,lo,true),[0,1,2,3,4],?_,⟨inferInstance,(show 0+1≤2 by decide),_,hJ.to (h':=h5),hpt,hz⟩,(show 2 - (0+1) < 2 - 0 by decide)⟩
          try simp(maxSteps:=999999) (disch:=omega) only[go_sem,ξ,ζ,aJ,Int.toNat_one,Nat.zero_mul,qBm,Nat.zero_add,List.set_cons_zero,List.set_cons_succ]
          all_goals rfl
        | false=>
          dsimp only[Pt.side] at*
          simp only[if_true,if_false,qAw,reduceIte] at*
          try simp(maxSteps:=999999) (disch:=omega) only[go_sem,ξ,ζ,Int.toNat_one,Nat.zero_mul,qBm,Nat.zero_add,List.set_cons_zero,List.set_cons_succ]
          dsimp only[lpS];refine⟨(0+1,_,true,hi),[0,1,2,3,4],?_,⟨inferInstance,(show 0+1≤2 by decide),_,hJ.to (h':=h5),hpt,hz⟩,(show 2 - (0+1) < 2 - 0 by decide)⟩
          try simp(maxSteps:=999999) (disch:=omega) only[go_sem,ξ,ζ,aJ,Int.toNat_one,Nat.zero_mul,qBm,Nat.zero_add,List.set_cons_zero,List.set_cons_succ]
          all_goals rfl
    · try simp(maxSteps:=999999) (disch:=omega) only[go_sem,ξ,ζ,Int.toNat_one,Nat.zero_mul,qBm,Nat.zero_add,List.set_cons_zero,List.set_cons_succ]
      refine caN (by exact pc (eX.to (h':=h4)) (ed.to (h':=h4)) lX ld) ?_;rintro w5 h5 s5 zz5;obtain⟨f1,f2,f3,f4,f5,f6,f7,rfl,zz5c⟩:=zz5.sa
      try simp(maxSteps:=999999) (disch:=omega) only[go_sem,ξ,ζ,Int.toNat_one,Nat.zero_mul,qBm,Nat.zero_add,List.set_cons_zero,List.set_cons_succ]
      have lz:=lU lX0 ld0 (by decide)
      have hz:inn X y1 y2 o (1+1)=stp (J,lo,hi) (X.mul y2):=by rw[←hacc];rfl
      generalize X.mul y2=z at*
      cases z with
      | fin q=>
        dsimp only[Pt.side] at*
        try simp(maxSteps:=999999) (disch:=omega) only[go_sem,ξ,ζ,Int.toNat_one,Nat.zero_mul,qBm,Nat.zero_add,List.set_cons_zero,List.set_cons_succ]
        refine caN (by exact qU zz5c.num) ?_;rintro _ h6 _ zz6;obtain⟨_,_,_,_,_,_,_,_,_,_,_,_,_,_,_,_,rfl,zz6⟩:=zz6.sa
        try simp(maxSteps:=999999) (disch:=omega) only[go_sem,ξ,ζ,Int.toNat_one,Nat.zero_mul,qBm,Nat.zero_add,List.set_cons_zero,List.set_cons_succ]
        refine caN (by exact mS (hJ.to (h':=h6)) zz6 (NS.le30' hpt.2.1) (NS.le30' (le_pt lz))) ?_;rintro _ h7 _ zz7;obtain⟨_,_,_,_,_,_,_,_,_,_,_,_,_,_,_,_,rfl,zz7⟩:=zz7.sa
        try simp(maxSteps:=999999) (disch:=omega) only[go_sem,ξ,ζ,Int.toNat_one,Nat.zero_mul,qBm,Nat.zero_add,List.set_cons_zero,List.set_cons_succ]
        dsimp only[lpS];refine⟨(1+1,_,lo,hi),[0,1,2,3,4],?_,⟨inferInstance,(show 1+1≤2 by decide),_,zz7,ja (z:=.fin q) hpt lz,hz⟩,(show 2 - (1+1) < 2 - 1 by decide)⟩
        try simp(maxSteps:=999999) (disch:=omega) only[go_sem,ξ,ζ,aJ,Int.toNat_one,Nat.zero_mul,qBm,Nat.zero_add,List.set_cons_zero,List.set_cons_succ]
        all_goals rfl
      | inf up=>
        cases up with
        | true=>
          dsimp only[Pt.side] at*
          simp only[if_true,if_false,qAw,reduceIte] at*
          try simp(maxSteps:=999999) (disch:=omega) only[go_sem,ξ,ζ,Int.toNat_one,Nat.zero_mul,qBm,Nat.zero_add,List.set_cons_zero,List.set_cons_succ]
          dsimp only[lpS];refine⟨(1+1,_,lo,true),[0,1,2,3,4],?_,⟨inferInstance,(show 1+1≤2 by decide),_,hJ.to (h':=h5),hpt,hz⟩,(show 2 - (1+1) < 2 - 1 by decide)⟩
          try simp(maxSteps:=999999) (disch:=omega) only[go_sem,ξ,ζ,aJ,Int.toNat_one,Nat.zero_mul,qBm,Nat.zero_add,List.set_cons_zero,List.set_cons_succ]
          all_goals rfl
        | false=>
          dsimp only[Pt.side] at*
          simp only[if_true,if_false,qAw,reduceIte] at*
          try simp(maxSteps:=999999) (disch:=omega) only[go_sem,ξ,ζ,Int.toNat_one,Nat.zero_mul,qBm,Nat.zero_add,List.set_cons_zero,List.set_cons_succ]
          dsimp only[lpS];refine⟨(1+1,_,true,hi),[0,1,2,3,4],?_,⟨inferInstance,(show 1+1≤2 by decide),_,hJ.to (h':=h5),hpt,hz⟩,(show 2 - (1+1) < 2 - 1 by decide)⟩
          try simp(maxSteps:=999999) (disch:=omega) only[go_sem,ξ,ζ,aJ,Int.toNat_one,Nat.zero_mul,qBm,Nat.zero_add,List.set_cons_zero,List.set_cons_succ]
          all_goals rfl
theorem prod_pts {a b c d:Option Rat} (ls:(NS.i a b).le 2048) (lt:(NS.i c d).le 2048):NS.pts 4096 (outer (lowP a) (highP b) (lowP c) (highP d) 2):=by
 rw[NS.le_i] at ls lt
 have la:=qR ls.1
 have lb:=og ls.2
 have lc:=qR lt.1
 have ld:=og lt.2
 exact ja (ja (ja (ja ⟨trivial,rfl,.inl rfl⟩ (lU la lc (by decide))) (lU la ld (by decide))) (lU lb lc (by decide))) (lU lb ld (by decide))
theorem fin3_pts {k:Nat} {o:NS×Bool×Bool} (h:NS.pts k o) (hk:1≤k):(fin3 o).ok∧(fin3 o).le k:=by
 obtain⟨s,l,u⟩:=o
 obtain⟨h1,h2,h3⟩:=h
 have h0:sz 0≤k:=χ (show sz 0≤1 by decide) hk
 rcases h3 with e |⟨a,b,e⟩
 ·cases(e:s=.e)
  refine⟨?_,?_⟩
  ·cases l<;>cases u<;>simp[fin3,NS.ok,ordO]
  ·show NS.le k (.i _ _)
   rw[NS.le_i]
   cases l<;>cases u<;>exact⟨fun _ e=>by cases e;try exact h0,fun _ e=>by cases e;try exact h0⟩
 ·cases(e:s=.i _ _)
  have h2':=(NS.le_i.1 h2)
  refine⟨?_,?_⟩
  ·cases l<;>cases u<;>first |exact h1 |rfl
  ·show NS.le k (.i _ _)
   rw[NS.le_i]
   cases l<;>cases u<;>exact⟨fun _ e=>by cases e;try exact h2'.1 _ rfl,fun _ e=>by cases e;try exact h2'.2 _ rfl⟩
theorem fK {x y:NS} (hx:x.le 2048) (hy:y.le 2048):(x.prod y).ok∧(x.prod y).le 4096:=by
 cases x with
 |e=>exact⟨trivial,rfl⟩
 | i a b=>cases y with
  |e=>exact⟨trivial,rfl⟩
  |i c d=>exact fin3_pts (prod_pts hx hy) (by decide)
theorem Prod1 {h0 h:PH} [Le h0 h] {s t:Value} {x y:NS} (hs:Sn h0 s x) (ht:Sn h0 t y) (gx:x.void=false) (gy:y.void=false) (lx:x.le 2048) (ly:y.le 2048):Spec mach 126 #[s,t] h (fun v h'=>Sn h' v (x.prod y)) NP:=by
 cases x with
 |e=>cases gx
 | i a b=>cases y with
  |e=>cases gy
  |i c d=>exact Ao hs ht lx ly
theorem gH {h0 h:PH} [Le h0 h] {v w:Value} {x y:RI} {p:Int} (hv:Iv h0 v x) (hw:Iv h0 w y):Spec mach 80 #[v,w,.int .i64 p] h (fun r h'=>Ir h' r (x.fin2 y (rnd p x.set y.set (.ok (x.set.prod y.set))))) NP:=by
 have hv0:=hv
 have hw0:=hw
 obtain⟨a1,m1,c1,a2,m2,c2,a3,m3,c3,a4,m4,c4,rfl,_,_⟩:=hv.sa
 obtain⟨a1',m1',c1',a2',m2',c2',a3',m3',c3',a4',m4',c4',rfl,_,_⟩:=hw.sa
 refine Spec.go [] Tryz.func80 rfl rfl (by kernel_rfl) fun C _=>?_
 try simp(maxSteps:=999999) (disch:=omega) only[go_sem,ξ,ζ,Int.toNat_one,Nat.zero_mul,qBm,Nat.zero_add,List.set_cons_zero,List.set_cons_succ]
 refine caN (by exact mC hv0 hw0 (fun g g' k k' h' _ s t hs ht=>Does.mk (Prod1 hs.sn ht.sn k k' (RI.le g) (RI.le g'))) (fun g g' z e=>by cases e;exact(fK (RI.le g) (RI.le g')).2.up (by decide))) ?_;rintro _ h3 _ hr3;obtain⟨_,_,_,_,_,_,_,_,_,_,_,_,_,_,_,_,_,rfl,hr3⟩:=hr3.sa
 try simp(maxSteps:=999999) (disch:=omega) only[go_sem,ξ,ζ,Int.toNat_one,Nat.zero_mul,qBm,Nat.zero_add,List.set_cons_zero,List.set_cons_succ]
 exact hr3
def invO:Option Rat→Rat
 |none=>((0:Int):Rat)
 |some q=>q⁻¹
def NS.inv:NS→NS
 |.e=>.e
 |.i a b=>.i (some (invO b)) (some (invO a))
theorem Ad {a b:Option Rat} (h:(NS.i a b).zero=false) (ho:(NS.i a b).ok):(∀q,a=some q→q≠0)∧∀q,b=some q→q≠0:=by
 have h1:¬((NS.i a b).slo≤0∧0≤(NS.i a b).shi):=by
  intro k
  simp[NS.zero,NS.void,k.1,k.2] at h
 refine⟨fun q e k=>h1 ?_,fun q e k=>h1 ?_⟩
 ·subst e k
  refine⟨by show sgn3 0≤0;decide,?_⟩
  cases b with
  |none=>show(0:Int)≤1;decide
  | some b=>
   have:¬b < 0:=by simpa[NS.ok,ordO] using ho
   show 0≤sgn3 b
   unfold sgn3;grind
 ·subst e k
  refine⟨?_,by show 0≤sgn3 0;decide⟩
  cases a with
  |none=>show(-1:Int)≤0;decide
  | some a=>
   have:¬(0:Rat) < a:=by simpa[NS.ok,ordO] using ho
   show sgn3 a≤0
   unfold sgn3;grind
theorem rp {h0 h:PH} [Le h0 h] {v:Value} {a b:Option Rat} (hv:Sn h0 v (.i a b)) (ha:∀q,a=some q→q≠0) (hb:∀q,b=some q→q≠0):Spec mach 129 #[v] h (fun v h'=>Sn h' v (NS.i a b).inv) NP:=by
 obtain⟨b1,a1,m1,c1,a2,m2,c2,b2,a3,m3,c3,a4,m4,c4,rfl,e1,e2⟩:=hv.ie
 cases a<;>cases b<;>
 ·dsimp only[Option.isNone]
  refine Spec.go [] Tryz.func129 rfl rfl (by kernel_rfl) fun C _=>?_
  try simp(maxSteps:=999999) (disch:=omega) only[go_sem,ξ,ζ]
  refine caN (by exact cB (n:=0) (by decide) (by decide)) ?_;rintro _ h1 _ f1;obtain⟨_,_,_,_,_,_,_,rfl,f1⟩:=f1.sa
  try simp(maxSteps:=999999) (disch:=omega) only[go_sem,ξ,ζ]
  refine caN (by exact cB (n:=0) (by decide) (by decide)) ?_;rintro _ h2 _ f2;obtain⟨_,_,_,_,_,_,_,rfl,f2⟩:=f2.sa
  try simp(maxSteps:=999999) (disch:=omega) only[go_sem,ξ,ζ]
  try (refine caN (by exact mu (e2.num.to (h':=h2)) (hb _ rfl)) ?_;rintro _ h3 _ f3;obtain⟨_,_,_,_,_,_,_,rfl,f3⟩:=f3.sa;(try simp(maxSteps:=999999) (disch:=omega) only[go_sem,ξ,ζ]))
  try (refine caN (by exact mu e1.num (ha _ rfl)) ?_;rintro _ h4 _ f4;obtain⟨_,_,_,_,_,_,_,rfl,f4⟩:=f4.sa;(try simp(maxSteps:=999999) (disch:=omega) only[go_sem,ξ,ζ]))
  try simp(maxSteps:=999999) (disch:=omega) only[go_sem,ξ,ζ]
  exact⟨_,_,_,_,_,_,rfl,by first |exact En.of f3.to |exact En.of f1.to,by first |exact En.of f4.to |exact En.of f2.to⟩
theorem jw {x:NS} {k:Nat} (h:x.le k) (hk:1≤k):x.inv.le k:=by
 cases x with
 |e=>exact h
 | i a b=>
  rw[NS.le_i] at h
  show NS.le k (.i (some (invO b)) (some (invO a)))
  rw[NS.le_i]
  have h0:sz ((0:Int):Rat)≤k:=χ (by decide) hk
  refine⟨fun q e=>?_,fun q e=>?_⟩
  ·cases e
   cases b with
   |none=>exact h0
   |some b=>exact χ (iQ b) (h.2 _ rfl)
  ·cases e
   cases a with
   |none=>exact h0
   |some a=>exact χ (iQ a) (h.1 _ rfl)
def divO (x y:NS):Out:=bif y.zero then .error 10 else .ok (x.prod y.inv)
theorem Div1 {h0 h:PH} [Le h0 h] {s t:Value} {x y:NS} (hs:Sn h0 s x) (ht:Sn h0 t y) (gx:x.void=false) (gy:y.void=false) (lx:x.le 2048) (ly:y.le 2048) (oy:y.ok):Does 127 #[s,t] h (divO x y):=by
 unfold divO
 have kZ:=fun {h} [Le h0 h]=>Ei (h:=h) ht
 have kI:y.zero=false→∀{h:PH} [Le h0 h],Spec mach 129 #[t] h (fun v h'=>Sn h' v y.inv) NP:=by
  intro hz h _
  cases y with
  |e=>cases gy
  | i c d=>
   obtain⟨n1,n2⟩:=Ad hz oy
   exact rp ht n1 n2
 have hs0:=hs
 have ht0:=ht
 obtain⟨_,_,_,_,_,_,_,_,_,_,_,_,_,_,_,_,rfl,_⟩:=hs.sa
 obtain⟨_,_,_,_,_,_,_,_,_,_,_,_,_,_,_,_,rfl,_⟩:=ht.sa
 cases hz:y.zero with
 | true=>
  rw[hz] at kZ
  show Spec _ _ _ _ NR (fail 10)
  refine Spec.go [] Tryz.func127 rfl rfl (by kernel_rfl) fun C _=>?_
  try simp(maxSteps:=999999) (disch:=omega) only[go_sem,ξ,ζ]
  refine caN (by exact kZ) ?_;rintro v1 h1 s1 rfl
  try simp(maxSteps:=999999) (disch:=omega) only[go_sem,ξ,ζ]
  exact caF (by exact jm (by decide)) (fun _ _ h=>h)
 | false=>
  rw[hz] at kZ
  show Spec _ _ _ _ (fun v h'=>Sn h' v (x.prod y.inv)) NP
  have kI:=fun {h} [Le h0 h]=>kI hz (h:=h)
  have gi:y.inv.void=false:=by cases y with
   |e=>cases gy
   |i c d=>rfl
  refine Spec.go [] Tryz.func127 rfl rfl (by kernel_rfl) fun C _=>?_
  try simp(maxSteps:=999999) (disch:=omega) only[go_sem,ξ,ζ]
  refine caN (by exact kZ) ?_;rintro v1 h1 s1 rfl
  try simp(maxSteps:=999999) (disch:=omega) only[go_sem,ξ,ζ]
  refine caN (by exact kI) ?_;rintro _ h2 _ q2;obtain⟨_,_,_,_,_,_,_,_,_,_,_,_,_,_,_,_,rfl,q2⟩:=q2.sa
  try simp(maxSteps:=999999) (disch:=omega) only[go_sem,ξ,ζ]
  refine caN (by exact Prod1 (hs0.to (h':=h2)) q2 gx gi lx (jw ly (by decide))) ?_;rintro _ h3 _ q3;obtain⟨_,_,_,_,_,_,_,_,_,_,_,_,_,_,_,_,rfl,q3⟩:=q3.sa
  try simp(maxSteps:=999999) (disch:=omega) only[go_sem,ξ,ζ]
  exact q3
theorem mH {h0 h:PH} [Le h0 h] {v w:Value} {x y:RI} {p:Int} (hv:Iv h0 v x) (hw:Iv h0 w y):Spec mach 81 #[v,w,.int .i64 p] h (fun r h'=>Ir h' r (x.fin2 y (rnd p x.set y.set (divO x.set y.set)))) NP:=by
 have hv0:=hv
 have hw0:=hw
 obtain⟨a1,m1,c1,a2,m2,c2,a3,m3,c3,a4,m4,c4,rfl,_,_⟩:=hv.sa
 obtain⟨a1',m1',c1',a2',m2',c2',a3',m3',c3',a4',m4',c4',rfl,_,_⟩:=hw.sa
 have kL:x.big=false→y.big=false→∀z,divO x.set y.set=.ok z→z.le (2^30):=by
  intro g g' z e
  unfold divO at e
  cases hz:y.set.zero with
  |true=>rw[hz] at e;cases e
  |false=>rw[hz] at e;cases e;exact(fK (RI.le g) (jw (RI.le g') (by decide))).2.up (by decide)
 refine Spec.go [] Tryz.func81 rfl rfl (by kernel_rfl) fun C _=>?_
 try simp(maxSteps:=999999) (disch:=omega) only[go_sem,ξ,ζ]
 refine caN (by exact mC hv0 hw0 (fun g g' k k' h' _ s t hs ht=>Div1 hs.sn ht.sn k k' (RI.le g) (RI.le g') (RI.set_ok y)) kL) ?_;rintro _ h3 _ hr3;obtain⟨_,_,_,_,_,_,_,_,_,_,_,_,_,_,_,_,_,rfl,hr3⟩:=hr3.sa
 try simp(maxSteps:=999999) (disch:=omega) only[go_sem,ξ,ζ]
 exact hr3
end Go.Q
namespace Go.Q
open Go.Proofs Go.RowKit
set_option maxRecDepth 100000
set_option maxHeartbeats 16000000
def mulE (p:Int) (x y:RI):Out:=x.fin2 y (rnd p x.set y.set (.ok (x.set.prod y.set)))
def divE (p:Int) (x y:RI):Out:=x.fin2 y (rnd p x.set y.set (divO x.set y.set))
def subE (p:Int) (x y:RI):Out:=x.fin2 y (rnd p x.set y.set (.ok (x.set.sum y.set.minus)))
def elE (p:Int) (kk ki kj ij:RI):Out:=match mulE p ki kj with
 |.error e=>.error e
 | .ok a=>match divE p a.ri kk with
  |.error e=>.error e
  |.ok b=>subE p ij b.ri
def nwE (o:Out) (x:RI):RI:=match o with
 |.ok z=>z.ri
 |.error _=>x
def okE:Out→Bool
 |.ok _=>true
 |.error _=>false
def stM (p:Int) (k:Nat) (M:Nat→Nat→RI) (i j a b:Nat):RI:=if k < a∧a≤b∧(a < i∨a=i∧b < j) then nwE (elE p (M k k) (M k a) (M k b) (M a b)) (M a b) else M a b
def stB (p:Int) (k n:Nat) (M:Nat→Nat→RI) (i j:Nat):Prop:=∀a b,k < a→a≤b→b < n→(a < i∨a=i∧b < j)→okE (elE p (M k k) (M k a) (M k b) (M a b))=true
def elB (p:Int) (k n:Nat) (M:Nat→Nat→RI):Prop:=∀a b,k < a→a≤b→b < n→okE (elE p (M k k) (M k a) (M k b) (M a b))=true
def elM (p:Int) (k:Nat) (M:Nat→Nat→RI) (a b:Nat):RI:=if k < a∧a≤b then nwE (elE p (M k k) (M k a) (M k b) (M a b)) (M a b) else M a b
theorem stM_row {p:Int} {k:Nat} {M:Nat→Nat→RI} {i j b:Nat}:stM p k M i j k b=M k b:=by unfold stM;rw[if_neg (by omega)]
theorem stM_at {p:Int} {k:Nat} {M:Nat→Nat→RI} {i j:Nat}:stM p k M i j i j=M i j:=by unfold stM;rw[if_neg (by omega)]
theorem stM_next {p:Int} {k:Nat} {M:Nat→Nat→RI} {i j:Nat} (h1:k < i) (h2:i≤j) {z:NS} (h:elE p (M k k) (M k i) (M k j) (M i j)=.ok z):
  (fun a b=>if a=i∧b=j then z.ri else stM p k M i j a b)=stM p k M i (j+1):=by
 funext a b
 unfold stM
 by_cases e:a=i∧b=j
 ·obtain⟨rfl,rfl⟩:=e
  rw[if_pos ⟨rfl,rfl⟩,if_pos ⟨h1,h2,.inr ⟨rfl,by omega⟩⟩,h];rfl
 ·rw[if_neg e]
  by_cases g:k < a∧a≤b∧(a < i∨a=i∧b < j)
  ·rw[if_pos g,if_pos ⟨g.1,g.2.1,by omega⟩]
  ·rw[if_neg g,if_neg (fun q=>g ⟨q.1,q.2.1,by omega⟩)]
theorem stM_line {p:Int} {k n:Nat} {M:Nat→Nat→RI} {i:Nat} {a b:Nat} (hb:b < n):stM p k M i n a b=stM p k M (i+1) (i+1) a b:=by
 unfold stM
 by_cases g:k < a∧a≤b∧(a < i∨a=i∧b < n)
 ·rw[if_pos g,if_pos ⟨g.1,g.2.1,by omega⟩]
 ·rw[if_neg g,if_neg (fun q=>g ⟨q.1,q.2.1,by omega⟩)]
theorem fin2_le {x y:RI} {o:Out} {z:NS} (h:x.fin2 y o=.ok z):z.le 2048:=by
 unfold RI.fin2 at h
 cases e:(x.big || y.big) with
 |true=>rw[e] at h;cases h
 | false=>
  rw[e,cond_false] at h
  cases o with
  |error e=>cases h
  | ok w=>
   unfold Out.fin at h
   dsimp only at h
   cases e2:decide (w.le 2048) with
   |false=>rw[e2] at h;cases h
   |true=>rw[e2] at h;cases h;exact of_decide_eq_true e2
structure Kx (n:Nat) (g:Nat→Nat) (W W':World):Prop where
 os:W'.os=W.os
 tape:W'.tape=W.tape
 output:W'.output=W.output
 size:W.heap.size≤W'.heap.size
 block:∀b,b < W.heap.size→(∀i,i < n→b≠g i)→W'.heap[b]?=W.heap[b]?
theorem Kx.refl (n:Nat) (g:Nat→Nat) (W:World):Kx n g W W:=⟨rfl,rfl,rfl,η _,fun _ _ _=>rfl⟩
theorem Kx.trans {n:Nat} {g:Nat→Nat} {A B C:World} (h:Kx n g A B) (k:Kx n g B C):Kx n g A C:=
 ⟨k.os.trans h.os,k.tape.trans h.tape,k.output.trans h.output,χ h.size k.size,fun b hb hn=>(k.block b (Nat.lt_of_lt_of_le hb h.size) hn).trans (h.block b hb hn)⟩
theorem Kx.of_below {n:Nat} {g:Nat→Nat} {A B:World} (h:Below A.heap.size A B):Kx n g A B:=⟨h.os,h.tape,h.output,h.size,fun b hb _=>h.block b hb⟩
end Go.Q
namespace Go.Q
open Go.Proofs
set_option maxRecDepth 100000
set_option maxHeartbeats 4000000
theorem NS.le.lesser {x y:NS} {k:Nat} (hx:x.le k) (hy:y.le k):(x.lesser y).le k:=by
 cases x with
 |e=>rfl
 | i a b =>
  cases y with
  |e=>rfl
  | i c d=>
   rw[NS.le_i] at hx hy
   show NS.le k (.i (jmin a c) (omin b d))
   rw[NS.le_i]
   refine⟨fun q e=>?_,fun q e=>?_⟩
   ·cases a with
    |none=>cases e
    | some a=>
     cases c with
     |none=>cases e
     |some c=>cases e;exact py (hx.1 _ rfl) (hy.1 _ rfl)
   ·cases b with
    |none=>exact hy.2 _ e
    | some b=>
     cases d with
     |none=>exact hx.2 _ e
     |some d=>cases e;exact py (hx.2 _ rfl) (hy.2 _ rfl)
set_option maxHeartbeats 8000000
theorem IH {h0 h:PH} [Le h0 h] {v w:Value} {x y:Rat} (hx:Qr h0 v x) (hy:Qr h0 w y) (bx:sz x≤2^35) (by_:sz y≤2^35):
  Spec mach 17 #[v,w] h (fun v h'=>Qr h' v (x*y)) NP:=by
 have hx0:=hx
 have hy0:=hy
 obtain⟨na,nl,nc,da,dl,dc,e,rfl,hn,hd,he⟩:=hx.sl
 obtain⟨na',nl',nc',da',dl',dc',e',rfl,hn',hd',he'⟩:=hy.sl
 have b1:=bG x;have b2:=bB x;have b3:=bG y;have b4:=bB y
 have b5:=aG x.num.natAbs y.num.natAbs
 have b6:=aG x.den y.den
 refine Spec.enter (args:=[_,_]) (n:=21) Tryz.func17 rfl (by kernel_rfl) rfl (by simp) [.cell 4 33] rfl (fun C _=>?_)
 repeat (first |(refine wo rfl (fun k hk=>?_);simp(disch:=omega) only[go_sem,ξ,ζ];apply hk;clear hk k) |refine wkt rfl ?_ |refine wk0 ?_ |refine rg rfl rfl (fun K hK=>?_) |refine rd [.o 0,.o 1,.o 2,.o 3,.o 4,.o 5,.o 6,.o 7,.o 8,.o 10,.o 12,.o 9,.o 11,.o 13,.o 14,.o 15,.o 16] rfl (by decide+kernel) rfl (fun K hK=>?_) |((first |refine ae ?_ |refine ac ?_);simp(disch:=decide) only[qs,qb,if_true,if_false,reduceIte]) |refine ah rfl (fun K hK=>?_) |refine ct rfl ?_ |((try simp(disch:=omega) only[go_sem,ξ,ζ]);(first |apply hK |(clear hK;apply hK) |(clear hK;clear hK;apply hK));clear hK;(try clear K);(try dsimp only[ag,qs,qb])))
 refine cN rfl rfl rfl rfl (by exact aV hn hn' (by omega) (by omega)) ?_;rintro v1 h1 _ hv1;obtain⟨v1,v1_l,v1_c,rfl,hv1⟩:=hv1.sl;(repeat (first |(refine wo rfl (fun k hk=>?_);simp(disch:=omega) only[go_sem,ξ,ζ];apply hk;clear hk k) |refine wkt rfl ?_));(try refine wk0 ?_)
 refine cN rfl rfl rfl rfl (by exact dU hx0) ?_;rintro d1 g1 _ hd1;obtain⟨d1,d1_l,d1_c,rfl,hd1⟩:=hd1.sl;(repeat (first |(refine wo rfl (fun k hk=>?_);simp(disch:=omega) only[go_sem,ξ,ζ];apply hk;clear hk k) |refine wkt rfl ?_));(try refine wk0 ?_)
 refine cN rfl rfl rfl rfl (by exact dU hy0) ?_;rintro d2 g2 _ hd2;obtain⟨d2,d2_l,d2_c,rfl,hd2⟩:=hd2.sl;(repeat (first |(refine wo rfl (fun k hk=>?_);simp(disch:=omega) only[go_sem,ξ,ζ];apply hk;clear hk k) |refine wkt rfl ?_));(try refine wk0 ?_)
 refine cN rfl rfl rfl rfl (by exact aV (hd1.to (h':=g2)) hd2 (by omega) (by omega)) ?_;rintro v2 h2 _ hv2;obtain⟨v2,v2_l,v2_c,rfl,hv2⟩:=hv2.sl;(repeat (first |(refine wo rfl (fun k hk=>?_);simp(disch:=omega) only[go_sem,ξ,ζ];apply hk;clear hk k) |refine wkt rfl ?_));(try refine wk0 ?_)
 refine cN rfl rfl rfl rfl (by exact fQ (hv1.to (h':=h2)) hv2 (by omega) (by omega)) ?_;rintro v3 h3 _ hv3;obtain⟨v3_0,v3_1,v3_2,v3_3,v3_4,v3_5,v3_6,rfl,hv3⟩:=hv3.sa;(repeat (first |(refine wo rfl (fun k hk=>?_);simp(disch:=omega) only[go_sem,ξ,ζ];apply hk;clear hk k) |refine wkt rfl ?_));(try refine wk0 ?_)
 (try (simp(disch:=omega) only[go_sem,ξ,ζ]));apply hK;clear hK;(try clear K);(try dsimp only[ag,qs])
 refine ai ?_;simp(disch:=omega) only[go_sem,ξ,ζ]
 rw[qZ] at hv3
 exact hv3
@[reducible] def Pt.val:Pt→Rat
 |.fin q=>q
 |.inf _=>0
def Pt.sg:Pt→Int
 |.fin q=>sgn3 q
 |.inf u=>if u=true then 1 else -1
theorem Pt.mul_zero {x y:Pt} (h:x.sg=0∨y.sg=0):x.mul y=.fin 0:=by
 cases x with
 | fin p=>cases y with
  | fin q=>
   show Pt.fin (p*q)=_
   rcases h with h |h
   ·have:=sgn3_zero.1 (show sgn3 p=0 from h);subst this;rw[Rat.zero_mul]
   ·have:=sgn3_zero.1 (show sgn3 q=0 from h);subst this;rw[Rat.mul_zero]
  | inf u=>
   have:=sgn3_zero.1 (show sgn3 p=0 from h.resolve_right (by cases u<;>simp[Pt.sg]));subst this;simp[Pt.mul]
 | inf u=>cases y with
  | fin q=>
   have:=sgn3_zero.1 (show sgn3 q=0 from h.resolve_left (by cases u<;>simp[Pt.sg]));subst this;simp[Pt.mul]
  |inf w=>rcases h with h |h<;>(revert h;cases u<;>cases w<;>simp[Pt.sg])
set_option maxHeartbeats 16000000

theorem Br.u {r r':Value} {o:Except Int Bool} (h:Br r o) (h':Br r' o):r'=r:=by
 cases o with
 |ok b=>cases(h:r=_);exact h'
 |error e=>cases(h:r=_);exact h'

open Go.Proofs Go.RowKit
attribute [local go_sem] Oper.semAt_some
section
variable {F:Fence} {n:Nat} {P:Program} {Q:Exit→Act→World→Prop} {o:Oper} {a:Act} {w:World} {K:Act→World→Prop}
theorem inAlloc {T:TypeId} {z:Array Value} (ho:o.op=.alloc T) (hz:(execOp a.eval o).run P w=.ok (.value (.pointer (some ⟨w.heap.size,0,none⟩))) (w.alloc (.cells z T)))
  (h:K (a.put o.dst (.pointer (some ⟨w.heap.size,0,none⟩))) (w.alloc (.cells z T))):o.wpIn F n P a w K Q:=by
 unfold Oper.wpIn
 refine⟨by simp[Oper.about,ho],?_⟩
 rw[Oper.semAt_plain _ _ _ (by rw[ho];intro c e;cases e),hz,Oper.uponIn_value]
 exact h
end
theorem Mx.kept {W:World} {hp:PH} {WB off r n:Nat} {g cp:Nat→Nat} {M:Nat→Nat→RI} (m:Mx W hp WB off r n g cp M) {W':World} {b:Nat} (hg:W.grownBy W' (some b)) (h0:hp b=none) (h1:b≠WB) (h2:∀i,i < r→b≠g i):Mx W' hp WB off r n g cp M:=by
 refine⟨m.has.kept hg (fun r e=>by cases e;exact h0),fun i hi=>hg.cell (a:=⟨WB,off+i,none⟩) (m.outer i hi) (fun e=>h1 (Option.some.inj e).symm),fun i hi=>?_,m.priv,m.inj⟩
 obtain⟨cs,T,k1,k2,k3⟩:=m.row i hi
 exact⟨cs,T,(hg.block _ (Array.getElem?_eq_some_iff.1 k1).1 (fun e=>h2 i hi (Option.some.inj e).symm)).trans k1,k2,k3⟩
theorem cellB {w w':World} (hb:Below w.heap.size w w') {a:Addr} {v:Value} (h:w.cell? a=some v):w'.cell? a=some v:=(hb.cell (World.block_lt_of_cell? w a h)).trans h
theorem c8 {w:World} {b o:Nat} {v0 v1 v2 v3 v4 v5 v6 v7:Value} (h:∀(t:Nat) u,([v0,v1,v2,v3,v4,v5,v6,v7]:List Value)[t]?=some u→w.cell? ⟨b,o+t,none⟩=some u):w.cell? ⟨b,o,none⟩=some v0∧w.cell? ⟨b,o+1,none⟩=some v1∧w.cell? ⟨b,o+2,none⟩=some v2∧w.cell? ⟨b,o+3,none⟩=some v3∧w.cell? ⟨b,o+4,none⟩=some v4∧w.cell? ⟨b,o+5,none⟩=some v5∧w.cell? ⟨b,o+6,none⟩=some v6∧w.cell? ⟨b,o+7,none⟩=some v7:=
 ⟨h 0 _ rfl,h 1 _ rfl,h 2 _ rfl,h 3 _ rfl,h 4 _ rfl,h 5 _ rfl,h 6 _ rfl,h 7 _ rfl⟩
theorem Kx.below {n:Nat} {g:Nat→Nat} {A B C:World} (h:Kx n g A B) (k:Below B.heap.size B C):Kx n g A C:=h.trans (Kx.of_below k)
theorem Kx.put {n:Nat} {g:Nat→Nat} {A B C:World} {b:Nat} (h:Kx n g A B) (k:B.grownBy C (some b)) (hb:A.heap.size≤b∨∃i,i < n∧b=g i):Kx n g A C:=
 ⟨k.os.trans h.os,k.tape.trans h.tape,k.output.trans h.output,χ h.size k.size,fun c hc hn=>(k.block c (Nat.lt_of_lt_of_le hc h.size) (fun e=>by
  obtain rfl:c=b:=Option.some.inj e
  rcases hb with q |⟨i,q1,q2⟩
  ·omega
  ·exact hn i q1 q2)).trans (h.block c hc hn)⟩
structure ElS (W0:World) (h0:PH) (WB off n:Nat) (g cp:Nat→Nat) (M:Nat→Nat→RI) (W:World) (hp:PH):Prop where
 kx:Kx n g W0 W
 sub:Sub h0 hp
 new:New W0.heap.size h0 hp
 m:Mx W hp WB off n n g cp M
structure ElB (W0:World) (h0:PH) (WB off n:Nat) (g cp:Nat→Nat) (M:Nat→Nat→RI) (W:World) (hp:PH) (B:Nat) (vs:List Value):Prop extends ElS W0 h0 WB off n g cp M W hp where
 at_:∃T,W.heap[B]?=some (.cells vs.toArray T (0,0))
 priv:hp B=none
 out:B≠WB
 row:∀i,i < n→B≠g i
 base:W0.heap.size≤B
section
variable {W0:World} {h0:PH} {WB off n:Nat} {g cp:Nat→Nat} {M:Nat→Nat→RI} {W:World} {hp:PH}
theorem ElS.call (s:ElS W0 h0 WB off n g cp M W hp) {h':PH} {W':World} (hb:Below W.heap.size W W') (hh:Has W' h') (hs:Sub hp h') (hn:New W.heap.size hp h'):ElS W0 h0 WB off n g cp M W' h':=
 ⟨s.kx.below hb,s.sub.trans hs,fun k hk=>(hn k hk).elim (s.new k) (fun q=>.inr (χ s.kx.size q)),s.m.up hs hh hb hn⟩
theorem ElS.drew (s:ElS W0 h0 WB off n g cp M W hp):ElS W0 h0 WB off n g cp M W.drew hp:=s.call (gt W) (s.m.has.below (gt W)) (Sub.refl _) (fun _ h=>.inl h)
theorem ElS.alloc (s:ElS W0 h0 WB off n g cp M W hp) (hn:0 < n) (z:List Value) (T:TypeId):ElB W0 h0 WB off n g cp M (W.alloc (.cells z.toArray T)) hp W.heap.size z:=by
 have hb:Below W.heap.size W (W.alloc (.cells z.toArray T)):=(Below.refl _ W).alloc (η _) _
 refine⟨s.call hb (s.m.has.below hb) (Sub.refl _) (fun _ h=>.inl h),⟨T,World.alloc_heap_new W _⟩,?_,?_,fun i hi=>?_,s.kx.size⟩
 ·cases e:hp W.heap.size with
  |none=>rfl
  |some cs=>have:=s.m.has.lt e;omega
 ·have:=World.block_lt_of_cell? W _ (s.m.outer 0 hn)
  dsimp only at this;omega
 ·have:=s.m.lt hi;omega
theorem ElB.call {B:Nat} {vs:List Value} (s:ElB W0 h0 WB off n g cp M W hp B vs) {h':PH} {W':World} (hb:Below W.heap.size W W') (hh:Has W' h') (hs:Sub hp h') (hn:New W.heap.size hp h'):ElB W0 h0 WB off n g cp M W' h' B vs:=by
 obtain⟨T,h⟩:=s.at_
 have hlt:=(Array.getElem?_eq_some_iff.1 h).1
 refine⟨s.toElS.call hb hh hs hn,⟨T,(hb.block _ hlt).trans h⟩,?_,s.out,s.row,s.base⟩
 cases e:h' B with
 |none=>rfl
 | some cs=>
  rcases hn B (by rw[e];simp) with k |k
  ·exact absurd s.priv k
  ·omega
theorem ElB.drew {B:Nat} {vs:List Value} (s:ElB W0 h0 WB off n g cp M W hp B vs):ElB W0 h0 WB off n g cp M W.drew hp B vs:=s.call (gt W) (s.m.has.below (gt W)) (Sub.refl _) (fun _ h=>.inl h)
theorem ElB.k8 {B:Nat} {v0 v1 v2 v3 v4 v5 v6 v7:Value} (s:ElB W0 h0 WB off n g cp M W hp B [v0,v1,v2,v3,v4,v5,v6,v7]):W.cell? ⟨B,0,none⟩=some v0∧W.cell? ⟨B,1,none⟩=some v1∧W.cell? ⟨B,2,none⟩=some v2∧W.cell? ⟨B,3,none⟩=some v3∧W.cell? ⟨B,4,none⟩=some v4∧W.cell? ⟨B,5,none⟩=some v5∧W.cell? ⟨B,6,none⟩=some v6∧W.cell? ⟨B,7,none⟩=some v7:=by
 obtain⟨T,h⟩:=s.at_
 have:=fun i=>bx_cell h i
 exact⟨this 0,this 1,this 2,this 3,this 4,this 5,this 6,this 7⟩
theorem ElB.fill {B:Nat} {us vs:List Value} (s:ElB W0 h0 WB off n g cp M W hp B us) (hu:us.length=8) (hv:vs.length=8) {T:TypeId} {W':World} (h:W'.heap[B]?=some (.cells (spl us 0 vs).toArray T (0,0))) (hg:W.grownBy W' (some B)):ElB W0 h0 WB off n g cp M W' hp B vs:=by
 refine⟨⟨s.kx.put hg (.inl s.base),s.sub,s.new,s.m.kept hg s.priv s.out s.row⟩,⟨T,?_⟩,s.priv,s.out,s.row,s.base⟩
 rw[h]
 congr 3
 refine List.ext_getElem? fun t=>?_
 rw[spl_drop _ _ _ _ (by omega)]
 split
 ·rw[Nat.sub_zero]
 ·rw[List.getElem?_eq_none (by omega),List.getElem?_eq_none (by omega)]
theorem ElS.set (s:ElS W0 h0 WB off n g cp M W hp) {i j:Nat} (hi:i < n) (hj:j < n) {W':World} {cs vs:List Value} {T:TypeId} {x:RI} (h1:W.heap[g i]?=some (.cells cs.toArray T (0,0))) (hv:vs.length=8) (hx:Iv hp (.agg vs.toArray) x)
  (h2:W'.heap[g i]?=some (.cells (spl cs (j*8) vs).toArray T (0,0))) (hg:W.grownBy W' (some (g i))):ElS W0 h0 WB off n g cp (fun a b=>if a=i∧b=j then x else M a b) W' hp:=
 ⟨s.kx.put hg (.inr ⟨i,hi,rfl⟩),s.sub,s.new,s.m.set hi hj h1 hv hx h2 hg⟩
end
def Enz (o:Out):Prop:=∀e,o=.error e→e≠0
theorem prec_nz {p:Int} {o:Out} (h:Enz o):Enz (Out.prec p o):=fun e he=>by
 unfold Out.prec at he
 cases g:bad p with
 |true=>rw[g] at he;cases he;decide
 |false=>rw[g] at he;exact h e he
theorem rnd_nz {p:Int} {x y:NS} {o:Out} (h:Enz o):Enz (rnd p x y o):=prec_nz fun e he=>by
 cases g:(x.void || y.void) with
 |true=>rw[g] at he;cases he
 | false=>
  rw[g] at he
  cases o with
  |error e'=>cases he;exact h _ rfl
  |ok z=>cases he
theorem fin2_nz {x y:RI} {o:Out} (h:Enz o):Enz (x.fin2 y o):=fun e he=>by
 unfold RI.fin2 at he
 cases g:(x.big || y.big) with
 |true=>rw[g] at he;cases he;decide
 | false=>
  rw[g,cond_false] at he
  cases o with
  |error e'=>cases he;exact h _ rfl
  | ok z=>
   unfold Out.fin at he
   dsimp only at he
   cases g:decide (z.le 2048) with
   |true=>rw[g] at he;cases he
   |false=>rw[g] at he;cases he;decide
theorem mulE_nz {p:Int} {x y:RI}:Enz (mulE p x y):=fin2_nz (rnd_nz fun e he=>by cases he)
theorem subE_nz {p:Int} {x y:RI}:Enz (subE p x y):=fin2_nz (rnd_nz fun e he=>by cases he)
theorem divE_nz {p:Int} {x y:RI}:Enz (divE p x y):=fin2_nz (rnd_nz fun e he=>by
 unfold divO at he
 cases g:y.set.zero with
 |true=>rw[g] at he;cases he;decide
 |false=>rw[g] at he;cases he)
theorem Ir.bad {h:PH} {u:Value} {e:Int} {o:Out} (k:Ir h (.tuple #[u,.int .i64 e]) o) (he:e≠0):okE o=false:=by
 cases o with
 |error e'=>rfl
 |ok z=>obtain⟨_,e1,_⟩:=k;simp at e1;exact absurd e1.2 he
theorem Ir.good {h:PH} {u:Value} {o:Out} (k:Ir h (.tuple #[u,.int .i64 0]) o) (hn:Enz o):∃z,o=.ok z∧Cv h u z:=by
 cases o with
 | error e'=>
  have e1:(.tuple #[u,.int .i64 0]:Value)=.tuple #[zIv,.int .i64 e']:=k
  simp at e1
  exact absurd e1.2.symm (hn _ rfl)
 |ok z=>obtain⟨_,e1,k⟩:=k;simp at e1;subst e1;exact⟨z,rfl,k⟩
theorem elE_mul {p:Int} {kk ki kj ij:RI} (h:okE (mulE p ki kj)=false):okE (elE p kk ki kj ij)=false:=by
 unfold elE;cases e:mulE p ki kj with
 |error _=>rfl
 |ok z=>rw[e] at h;cases h
theorem elE_div {p:Int} {kk ki kj ij:RI} {x:NS} (e:mulE p ki kj=.ok x) (h:okE (divE p x.ri kk)=false):okE (elE p kk ki kj ij)=false:=by
 unfold elE;rw[e];dsimp only
 cases e:divE p x.ri kk with
 |error _=>rfl
 |ok z=>rw[e] at h;cases h
theorem elE_ok {p:Int} {kk ki kj ij:RI} {x y:NS} (e1:mulE p ki kj=.ok x) (e2:divE p x.ri kk=.ok y):elE p kk ki kj ij=subE p ij y.ri:=by unfold elE;rw[e1];dsimp only;rw[e2]
theorem not_elB {p:Int} {k n i j:Nat} {M:Nat→Nat→RI} (h1:k < i) (h2:i≤j) (h3:j < n) (h:okE (elE p (M k k) (M k i) (M k j) (M i j))=false):¬elB p k n M:=fun g=>by rw[g i j h1 h2 h3] at h;cases h
theorem stB_next {p:Int} {k n i j:Nat} {M:Nat→Nat→RI} (h:stB p k n M i j) (hj:okE (elE p (M k k) (M k i) (M k j) (M i j))=true):stB p k n M i (j+1):=fun a b h1 h2 h3 h4=>by
 by_cases e:a=i∧b=j
 ·obtain⟨rfl,rfl⟩:=e;exact hj
 ·exact h a b h1 h2 h3 (by omega)
theorem Mx.congr {W:World} {hp:PH} {WB off r n:Nat} {g cp:Nat→Nat} {M M':Nat→Nat→RI} (m:Mx W hp WB off r n g cp M) (h:∀a b,b < n→M a b=M' a b):Mx W hp WB off r n g cp M':=
 ⟨m.has,m.outer,fun i hi=>let ⟨cs,T,k1,k2,k3⟩:=m.row i hi;⟨cs,T,k1,k2,fun j hj=>by rw[←h i j hj];exact k3 j hj⟩,m.priv,m.inj⟩
theorem stM_all {p:Int} {k n a b:Nat} {M:Nat→Nat→RI} (hb:b < n):stM p k M n n a b=elM p k M a b:=by
 unfold stM elM
 by_cases g:k < a∧a≤b
 ·rw[if_pos ⟨g.1,g.2,by omega⟩,if_pos g]
 ·rw[if_neg (fun q=>g ⟨q.1,q.2.1⟩),if_neg g]
theorem Iv.e8 {h:PH} {l:List Value} {x:RI} (r:Iv h (.agg l.toArray) x):l.length=8∧l.all Value.oneCell'=true:=by
 obtain⟨_,_,_,_,_,_,_,_,_,_,_,_,e,_,_⟩:=r.sa
 have e:l=_:=congrArg Array.toList (Value.agg.inj e)
 subst e;exact⟨rfl,rfl⟩
theorem elim_p {N : Nat} {W0:World} {h0:PH} {WB off n c:Nat} {g cp:Nat→Nat} {p:Int} {k:Nat} {M:Nat→Nat→RI} (m0:Mx W0 h0 WB off n n g cp M) (hn:n≤6) (hk:k < n) (hg:Sub mach.gl h0):
  CallsIn Fence.wide N Tryz.prog 33 #[.slice (some ⟨WB,off,none⟩) n c,.int .i64 k,.int .i64 p] W0 fun e W'=>(e=.returned (.bool true)∧elB p k n M∧∃hp,ElS W0 h0 WB off n g cp (elM p k M) W' hp)∨(e=.returned (.bool false)∧¬elB p k n M∧∃hp M',ElS W0 h0 WB off n g cp M' W' hp):=by
 refine callsIn_of_wp Tryz.func33 rfl trivial ?_ rfl
 simp only[Tryz.ntmps33,List.size_toArray,List.length_cons,List.length_nil,ζ,Nat.reduceSub,Array.replicate_succ,Array.replicate_zero,List.push_toArray,List.append_toArray,List.nil_append,List.cons_append]
 have hdd:∀k:Nat,(Fence.wide.depth.isSome=true→1≤k):=fun k h=>by cases h
 have hmix:Tryz.prog.follows .mixedOrders=true:=by kernel_rfl
 have htk:tk mach.P 41=some (some 8):=by kernel_rfl
 obtain⟨K,hK⟩:∃K:Int,(k:Int)=K:=⟨_,rfl⟩
 have hni:(n:Int)≤6:=by omega
 have hK1:0≤K∧K < n:=by omega
 have eK:K.toNat=k:=by omega
 rw[hK]
 gi_wp2
 gi_loopw [7] (fun q wr=>∃(I:Int) (i:Nat),(i:Int)=I∧k+1≤i∧i≤n∧q=.int .i64 I∧stB p k n M i i∧∃hp,ElS W0 h0 WB off n g cp (stM p k M i i) wr hp) (fun q _=>n - (RowKit.intOf q).toNat)
 case atStart=>exact⟨_,k+1,by omega,by omega,by omega,rfl,fun a b h1 h2 h3 h4=>by omega,h0,Kx.refl _ _ _,Sub.refl _,fun _ h=>.inl h,m0.congr fun a b _=>by unfold stM;rw[if_neg (by omega)]⟩
 case round=>
  obtain⟨I,i,eI,hi1,hi2,rfl,hst0,hp0,hI⟩:=hrel
  by_cases h2:I < n
  ·have hI1:0≤I:=by omega
   have eI2:I.toNat=i:=by omega
   gi_wp2
   gi_loopw [8] (fun q wr=>∃(J:Int) (j:Nat),(j:Int)=J∧i≤j∧j≤n∧q=.int .i64 J∧stB p k n M i j∧∃hp,ElS W0 h0 WB off n g cp (stM p k M i j) wr hp) (fun q _=>n - (RowKit.intOf q).toNat)
   case atStart=>exact⟨_,i,eI,by omega,by omega,rfl,hst0,hp0,hI⟩
   case round=>
    obtain⟨J,j,eJ,hj1,hj2,rfl,hst,hp,s⟩:=hrel
    by_cases h3:J < n
    ·have hJ1:0≤J:=by omega
     have eJ2:J.toNat=j:=by omega
     gi_wp2
     replace s:=s.drew
     obtain⟨bA1,aA1,mA1,kA1,aA2,mA2,kA2,bA2,aA3,mA3,kA3,aA4,mA4,kA4,eA1,eA2,dA,iA⟩:=s.m.entry (i:=k) (j:=i) (by omega) (by omega)
     obtain⟨bB1,aB1,mB1,kB1,aB2,mB2,kB2,bB2,aB3,mB3,kB3,aB4,mB4,kB4,eB1,eB2,dB,iB⟩:=s.m.entry (i:=k) (j:=j) (by omega) (by omega)
     rw[stM_row] at iA iB
     have ou:=s.m.outer k hk
     have F:=fun w' (hb:Below wr.drew.heap.size wr.drew w')=>And.intro (cellB hb ou) (And.intro (c8 fun t u hu=>cellB hb (dA t u hu)) (c8 fun t u hu=>cellB hb (dB t u hu)))
     refine wpIn_region_b hmix ?_
     refine tkP 0 rfl rfl (by kernel_rfl) (fun _ _ _ h=>h) (fun _=>rfl) (v:=?_) (fun w'=>?_) ?_
     rotate_left
     ·go_simp<;>rfl
     go_simp
     refine tkP 1 rfl rfl (by kernel_rfl) (fun _ _ _ h=>h) (fun _=>rfl) (v:=?_) (fun w'=>?_) ?_
     rotate_left
     ·go_simp<;>rfl
     go_simp
     refine tkP 2 rfl rfl (by kernel_rfl) (fun _ _ _ h=>h) (fun _=>rfl) (v:=?_) (fun w'=>?_) ?_
     rotate_left
     ·go_simp<;>rfl
     go_simp
     refine tkR 3 rfl rfl (by kernel_rfl) (fun _ _ _ h=>h) (fun _=>rfl) (v:=?_) (fun w' hb=>?_) ?_
     rotate_left
     ·obtain⟨q0,⟨qa0,qa1,qa2,qa3,qa4,qa5,qa6,qa7⟩,qb0,qb1,qb2,qb3,qb4,qb5,qb6,qb7⟩:=F w' hb
      go_simp<;>rfl
     go_simp
     refine tkP 4 rfl rfl (by kernel_rfl) (fun _ _ _ h=>h) (fun _=>rfl) (v:=?_) (fun w'=>?_) ?_
     rotate_left
     ·go_simp<;>rfl
     go_simp
     refine tkP 5 rfl rfl (by kernel_rfl) (fun _ _ _ h=>h) (fun _=>rfl) (v:=?_) (fun w'=>?_) ?_
     rotate_left
     ·go_simp<;>rfl
     go_simp
     refine tkR 6 rfl rfl (by kernel_rfl) (fun _ _ _ h=>h) (fun _=>rfl) (v:=?_) (fun w' hb=>?_) ?_
     rotate_left
     ·obtain⟨q0,⟨qa0,qa1,qa2,qa3,qa4,qa5,qa6,qa7⟩,qb0,qb1,qb2,qb3,qb4,qb5,qb6,qb7⟩:=F w' hb
      go_simp<;>rfl
     go_simp
     refine tkP 7 rfl rfl (by kernel_rfl) (fun _ _ _ h=>h) (fun _=>rfl) (v:=?_) (fun w'=>?_) ?_
     rotate_left
     ·go_simp<;>rfl
     go_simp
     refine tkP 8 rfl rfl (by kernel_rfl) (fun _ _ _ h=>h) (fun _=>rfl) (v:=?_) (fun w'=>?_) ?_
     rotate_left
     ·go_simp<;>rfl
     go_simp
     refine tkP 9 rfl rfl (by kernel_rfl) (fun _ _ _ h=>h) (fun _=>rfl) (v:=?_) (fun w'=>?_) ?_
     rotate_left
     ·go_simp<;>rfl
     go_simp
     refine tkR 10 rfl rfl (by kernel_rfl) (fun _ _ _ h=>h) (fun _=>rfl) (v:=?_) (fun w' hb=>?_) ?_
     rotate_left
     ·obtain⟨q0,⟨qa0,qa1,qa2,qa3,qa4,qa5,qa6,qa7⟩,qb0,qb1,qb2,qb3,qb4,qb5,qb6,qb7⟩:=F w' hb
      go_simp<;>rfl
     go_simp
     refine tkP 11 rfl rfl (by kernel_rfl) (fun _ _ _ h=>h) (fun _=>rfl) (v:=?_) (fun w'=>?_) ?_
     rotate_left
     ·go_simp<;>rfl
     go_simp
     refine tkP 12 rfl rfl (by kernel_rfl) (fun _ _ _ h=>h) (fun _=>rfl) (v:=?_) (fun w'=>?_) ?_
     rotate_left
     ·go_simp<;>rfl
     go_simp
     refine tkR 13 rfl rfl (by kernel_rfl) (fun _ _ _ h=>h) (fun _=>rfl) (v:=?_) (fun w' hb=>?_) ?_
     rotate_left
     ·obtain⟨q0,⟨qa0,qa1,qa2,qa3,qa4,qa5,qa6,qa7⟩,qb0,qb1,qb2,qb3,qb4,qb5,qb6,qb7⟩:=F w' hb
      go_simp<;>rfl
     go_simp
     refine tkP 14 rfl rfl (by kernel_rfl) (fun _ _ _ h=>h) (fun _=>rfl) (v:=?_) (fun w'=>?_) ?_
     rotate_left
     ·go_simp<;>rfl
     go_simp
     clear F
     refine tp2 15 19 rfl rfl rfl rfl (by kernel_rfl) (fun K' hK'=>?cA) (fun K' hK'=>?cB)
     case' cA=>
      go_simp
      refine⟨trivial,hdd _,(callsIn_wide.2 ((gH (h0:=hp) (h:=hp) (p:=p) iA iB).run _ s.m.has (hg.trans s.sub))).mono ?_⟩
      intro e W1 hP;obtain⟨u,h1,rfl,t1,t2,t3,t4,r⟩:=post_ret hP;clear hP
      replace s:=s.call t1 t2 t3 t4
      obtain⟨p1,p2,p3,p4,p5,p6,p7,p8,p9,p10,p11,p12,p13,p14,p15,p16,e,rfl,r⟩:=r.sa
      refine hK' _ _ ⟨.inr (.inr t1),?_⟩
      clear hK' K'
      go_simp
      refine tkP 16 rfl rfl (by kernel_rfl) (fun _ _ _ h=>h) (fun _=>rfl) (v:=?_) (fun w'=>?_) ?_
      rotate_left
      ·go_simp<;>rfl
      go_simp
      refine tkP 17 rfl rfl (by kernel_rfl) (fun _ _ _ h=>h) (fun _=>rfl) (v:=?_) (fun w'=>?_) ?_
      rotate_left
      ·go_simp<;>rfl
      go_simp
      refine tkP 18 rfl rfl (by kernel_rfl) (fun _ _ _ h=>h) (fun _=>rfl) (v:=?_) (fun w'=>?_) ?_
      rotate_left
      ·go_simp<;>rfl
      go_simp
      refine tpOne 19 rfl rfl (by kernel_rfl) fun K' hK'=>?_
      obtain⟨B,hB⟩:∃B,W1.heap.size=B:=⟨_,rfl⟩
      refine inAlloc (z:=[.bool false,.slice none 0 0,.slice none 0 0,.bool false,.slice none 0 0,.slice none 0 0,.bool false,.bool false].toArray) rfl (by go_simp<;>rfl) ?_
      refine hK' _ _ ⟨.inr (.inr ((Below.refl _ _).alloc (η _) _)),?_⟩
      clear hK' K'
      have s':=s.alloc (by omega) [.bool false,.slice none 0 0,.slice none 0 0,.bool false,.slice none 0 0,.slice none 0 0,.bool false,.bool false] 41
      clear s;have s:=s';clear s'
      rw[hB] at s ⊢
      go_simp
      clear hB
      refine tpOne 20 rfl rfl (by kernel_rfl) fun K' hK'=>?_
      obtain⟨T,hT⟩:=s.at_
      refine wpIn_store_box (M:=mach) rfl B 0 [.bool p1,.slice p2 p3 p4,.slice p5 p6 p7,.bool p8,.slice p9 p10 p11,.slice p12 p13 p14,.bool p15,.bool p16] _ rfl (by go_simp<;>rfl) (by go_simp<;>rfl) htk rfl rfl hT (by simp) ?_
      intro W3 hW3 hg3
      have s':=s.fill (vs:=[.bool p1,.slice p2 p3 p4,.slice p5 p6 p7,.bool p8,.slice p9 p10 p11,.slice p12 p13 p14,.bool p15,.bool p16]) rfl rfl hW3 hg3
      clear s;have s:=s';clear s'
      refine hK' _ _ ⟨.inl rfl,?_⟩
      clear hK' K' hT hW3 hg3
      go_simp
      refine tkP 21 rfl rfl (by kernel_rfl) (fun _ _ _ h=>h) (fun _=>rfl) (v:=?_) (fun w'=>?_) ?_
      rotate_left
      ·go_simp<;>rfl
      go_simp
      refine doneB (by kernel_rfl) ?_ 0
     case' cB=>
      obtain⟨B,hB⟩:∃B,wr.drew.heap.size=B:=⟨_,rfl⟩
      refine inAlloc (z:=[.bool false,.slice none 0 0,.slice none 0 0,.bool false,.slice none 0 0,.slice none 0 0,.bool false,.bool false].toArray) rfl (by go_simp<;>rfl) ?_
      refine hK' _ _ ⟨.inr (.inr ((Below.refl _ _).alloc (η _) _)),?_⟩
      clear hK' K'
      have s':=s.alloc (by omega) [.bool false,.slice none 0 0,.slice none 0 0,.bool false,.slice none 0 0,.slice none 0 0,.bool false,.bool false] 41
      clear s;have s:=s';clear s'
      rw[hB] at s ⊢
      go_simp
      clear hB
      refine tpOne 15 rfl rfl (by kernel_rfl) fun K' hK'=>?_
      go_simp
      refine⟨trivial,hdd _,(callsIn_wide.2 ((gH (h0:=hp) (h:=hp) (p:=p) iA iB).run _ s.m.has (hg.trans s.sub))).mono ?_⟩
      intro e W1 hP;obtain⟨u,h1,rfl,t1,t2,t3,t4,r⟩:=post_ret hP;clear hP
      replace s:=s.call t1 t2 t3 t4
      obtain⟨p1,p2,p3,p4,p5,p6,p7,p8,p9,p10,p11,p12,p13,p14,p15,p16,e,rfl,r⟩:=r.sa
      refine hK' _ _ ⟨.inr (.inr t1),?_⟩
      clear hK' K'
      go_simp
      refine tkP 16 rfl rfl (by kernel_rfl) (fun _ _ _ h=>h) (fun _=>rfl) (v:=?_) (fun w'=>?_) ?_
      rotate_left
      ·go_simp<;>rfl
      go_simp
      refine tkP 17 rfl rfl (by kernel_rfl) (fun _ _ _ h=>h) (fun _=>rfl) (v:=?_) (fun w'=>?_) ?_
      rotate_left
      ·go_simp<;>rfl
      go_simp
      refine tkP 18 rfl rfl (by kernel_rfl) (fun _ _ _ h=>h) (fun _=>rfl) (v:=?_) (fun w'=>?_) ?_
      rotate_left
      ·go_simp<;>rfl
      go_simp
      refine tpOne 20 rfl rfl (by kernel_rfl) fun K' hK'=>?_
      obtain⟨T,hT⟩:=s.at_
      refine wpIn_store_box (M:=mach) rfl B 0 [.bool p1,.slice p2 p3 p4,.slice p5 p6 p7,.bool p8,.slice p9 p10 p11,.slice p12 p13 p14,.bool p15,.bool p16] _ rfl (by go_simp<;>rfl) (by go_simp<;>rfl) htk rfl rfl hT (by simp) ?_
      intro W3 hW3 hg3
      have s':=s.fill (vs:=[.bool p1,.slice p2 p3 p4,.slice p5 p6 p7,.bool p8,.slice p9 p10 p11,.slice p12 p13 p14,.bool p15,.bool p16]) rfl rfl hW3 hg3
      clear s;have s:=s';clear s'
      refine hK' _ _ ⟨.inl rfl,?_⟩
      clear hK' K' hT hW3 hg3
      go_simp
      refine tkP 21 rfl rfl (by kernel_rfl) (fun _ _ _ h=>h) (fun _=>rfl) (v:=?_) (fun w'=>?_) ?_
      rotate_left
      ·go_simp<;>rfl
      go_simp
      refine doneB (by kernel_rfl) ?_ 0
     all_goals
      clear ou dA dB iA iB
      replace r:Ir h1 _ (mulE p (M k i) (M k j)):=r
      gi_wp2
      ·go_ret
       exact .inr ⟨rfl,not_elB (by omega) (by omega) (by omega) (elE_mul (r.bad (by simpa using (show(e != 0)=true by assumption)))),h1,_,s.toElS⟩
      ·skip
       obtain rfl:e=0:=by simpa using (show(e != 0)=false by assumption)
       obtain⟨x,ex,cx⟩:=r.good mulE_nz
       replace s:=s.drew
       obtain⟨bC1,aC1,mC1,kC1,aC2,mC2,kC2,bC2,aC3,mC3,kC3,aC4,mC4,kC4,eC1,eC2,dC,iC⟩:=s.m.entry (i:=k) (j:=k) (by omega) (by omega)
       rw[stM_row] at iC
       have iX:=cx.iv (fin2_le ex)
       have ou:=s.m.outer k hk
       have F:=fun w' (hb:Below W3.drew.heap.size W3.drew w')=>And.intro (cellB hb ou) (And.intro (c8 fun t u hu=>cellB hb (dC t u hu)) (let q:=s.k8;And.intro (cellB hb q.1) (And.intro (cellB hb q.2.1) (And.intro (cellB hb q.2.2.1) (And.intro (cellB hb q.2.2.2.1) (And.intro (cellB hb q.2.2.2.2.1) (And.intro (cellB hb q.2.2.2.2.2.1) (And.intro (cellB hb q.2.2.2.2.2.2.1) (cellB hb q.2.2.2.2.2.2.2)))))))))
       refine wpIn_region_b hmix ?_
       refine tkR 0 rfl rfl (by kernel_rfl) (fun _ _ _ h=>h) (fun _=>rfl) (v:=?_) (fun w' hb=>?_) ?_
       rotate_left
       ·obtain⟨q0,⟨qa0,qa1,qa2,qa3,qa4,qa5,qa6,qa7⟩,qx0,qx1,qx2,qx3,qx4,qx5,qx6,qx7⟩:=F w' hb
        go_simp<;>rfl
       go_simp
       refine tkP 1 rfl rfl (by kernel_rfl) (fun _ _ _ h=>h) (fun _=>rfl) (v:=?_) (fun w'=>?_) ?_
       rotate_left
       ·go_simp<;>rfl
       go_simp
       refine tkP 2 rfl rfl (by kernel_rfl) (fun _ _ _ h=>h) (fun _=>rfl) (v:=?_) (fun w'=>?_) ?_
       rotate_left
       ·go_simp<;>rfl
       go_simp
       refine tkP 3 rfl rfl (by kernel_rfl) (fun _ _ _ h=>h) (fun _=>rfl) (v:=?_) (fun w'=>?_) ?_
       rotate_left
       ·go_simp<;>rfl
       go_simp
       refine tkR 4 rfl rfl (by kernel_rfl) (fun _ _ _ h=>h) (fun _=>rfl) (v:=?_) (fun w' hb=>?_) ?_
       rotate_left
       ·obtain⟨q0,⟨qa0,qa1,qa2,qa3,qa4,qa5,qa6,qa7⟩,qx0,qx1,qx2,qx3,qx4,qx5,qx6,qx7⟩:=F w' hb
        go_simp<;>rfl
       go_simp
       refine tkP 5 rfl rfl (by kernel_rfl) (fun _ _ _ h=>h) (fun _=>rfl) (v:=?_) (fun w'=>?_) ?_
       rotate_left
       ·go_simp<;>rfl
       go_simp
       refine tkP 6 rfl rfl (by kernel_rfl) (fun _ _ _ h=>h) (fun _=>rfl) (v:=?_) (fun w'=>?_) ?_
       rotate_left
       ·go_simp<;>rfl
       go_simp
       refine tkR 7 rfl rfl (by kernel_rfl) (fun _ _ _ h=>h) (fun _=>rfl) (v:=?_) (fun w' hb=>?_) ?_
       rotate_left
       ·obtain⟨q0,⟨qa0,qa1,qa2,qa3,qa4,qa5,qa6,qa7⟩,qx0,qx1,qx2,qx3,qx4,qx5,qx6,qx7⟩:=F w' hb
        go_simp<;>rfl
       go_simp
       refine tkP 8 rfl rfl (by kernel_rfl) (fun _ _ _ h=>h) (fun _=>rfl) (v:=?_) (fun w'=>?_) ?_
       rotate_left
       ·go_simp<;>rfl
       go_simp
       clear F ou dC
       refine tpOne 9 rfl rfl (by kernel_rfl) fun K' hK'=>?_
       replace iX:=iX
       go_simp
       refine⟨trivial,hdd _,(callsIn_wide.2 ((mH (h0:=h1) (h:=h1) (p:=p) iX iC).run _ s.m.has (hg.trans s.sub))).mono ?_⟩
       intro e W1 hP;obtain⟨u,h1,rfl,t1,t2,t3,t4,r⟩:=post_ret hP;clear hP
       replace s:=s.call t1 t2 t3 t4
       obtain⟨p1,p2,p3,p4,p5,p6,p7,p8,p9,p10,p11,p12,p13,p14,p15,p16,e,rfl,r⟩:=r.sa
       refine hK' _ _ ⟨.inr (.inr t1),?_⟩
       clear hK' K'
       go_simp
       refine tkP 10 rfl rfl (by kernel_rfl) (fun _ _ _ h=>h) (fun _=>rfl) (v:=?_) (fun w'=>?_) ?_
       rotate_left
       ·go_simp<;>rfl
       go_simp
       refine tkP 11 rfl rfl (by kernel_rfl) (fun _ _ _ h=>h) (fun _=>rfl) (v:=?_) (fun w'=>?_) ?_
       rotate_left
       ·go_simp<;>rfl
       go_simp
       refine tkP 12 rfl rfl (by kernel_rfl) (fun _ _ _ h=>h) (fun _=>rfl) (v:=?_) (fun w'=>?_) ?_
       rotate_left
       ·go_simp<;>rfl
       go_simp
       refine tpOne 13 rfl rfl (by kernel_rfl) fun K' hK'=>?_
       obtain⟨T,hT⟩:=s.at_
       refine wpIn_store_box (M:=mach) rfl B 0 [.bool p1,.slice p2 p3 p4,.slice p5 p6 p7,.bool p8,.slice p9 p10 p11,.slice p12 p13 p14,.bool p15,.bool p16] _ rfl (by go_simp<;>rfl) (by go_simp<;>rfl) htk rfl rfl hT (by simp) ?_
       intro W3 hW3 hg3
       have s':=s.fill (vs:=[.bool p1,.slice p2 p3 p4,.slice p5 p6 p7,.bool p8,.slice p9 p10 p11,.slice p12 p13 p14,.bool p15,.bool p16]) rfl rfl hW3 hg3
       clear s;have s:=s';clear s'
       refine hK' _ _ ⟨.inl rfl,?_⟩
       clear hK' K' hT hW3 hg3
       go_simp
       refine tkP 14 rfl rfl (by kernel_rfl) (fun _ _ _ h=>h) (fun _=>rfl) (v:=?_) (fun w'=>?_) ?_
       rotate_left
       ·go_simp<;>rfl
       go_simp
       refine doneB (by kernel_rfl) ?_ 0
       replace r:Ir h1 _ (divE p x.ri (M k k)):=r
       gi_wp2
       ·go_ret
        exact .inr ⟨rfl,not_elB (by omega) (by omega) (by omega) (elE_div ex (r.bad (by simpa using (show(e != 0)=true by assumption)))),h1,_,s.toElS⟩
       ·skip
        obtain rfl:e=0:=by simpa using (show(e != 0)=false by assumption)
        obtain⟨y,ey,cy⟩:=r.good divE_nz
        replace s:=s.drew
        obtain⟨bD1,aD1,mD1,kD1,aD2,mD2,kD2,bD2,aD3,mD3,kD3,aD4,mD4,kD4,eD1,eD2,dD,iD⟩:=s.m.entry (i:=i) (j:=j) (by omega) (by omega)
        rw[stM_at] at iD
        have iY:=cy.iv (fin2_le ey)
        have ou:=s.m.outer i (by omega)
        have F:=fun w' (hb:Below W3.drew.heap.size W3.drew w')=>And.intro (cellB hb ou) (And.intro (c8 fun t u hu=>cellB hb (dD t u hu)) (let q:=s.k8;And.intro (cellB hb q.1) (And.intro (cellB hb q.2.1) (And.intro (cellB hb q.2.2.1) (And.intro (cellB hb q.2.2.2.1) (And.intro (cellB hb q.2.2.2.2.1) (And.intro (cellB hb q.2.2.2.2.2.1) (And.intro (cellB hb q.2.2.2.2.2.2.1) (cellB hb q.2.2.2.2.2.2.2)))))))))
        refine wpIn_region_b hmix ?_
        refine tkP 0 rfl rfl (by kernel_rfl) (fun _ _ _ h=>h) (fun _=>rfl) (v:=?_) (fun w'=>?_) ?_
        rotate_left
        ·go_simp<;>rfl
        go_simp
        refine tkP 1 rfl rfl (by kernel_rfl) (fun _ _ _ h=>h) (fun _=>rfl) (v:=?_) (fun w'=>?_) ?_
        rotate_left
        ·go_simp<;>rfl
        go_simp
        refine tkP 2 rfl rfl (by kernel_rfl) (fun _ _ _ h=>h) (fun _=>rfl) (v:=?_) (fun w'=>?_) ?_
        rotate_left
        ·go_simp<;>rfl
        go_simp
        refine tkR 3 rfl rfl (by kernel_rfl) (fun _ _ _ h=>h) (fun _=>rfl) (v:=?_) (fun w' hb=>?_) ?_
        rotate_left
        ·obtain⟨q0,⟨qa0,qa1,qa2,qa3,qa4,qa5,qa6,qa7⟩,qx0,qx1,qx2,qx3,qx4,qx5,qx6,qx7⟩:=F w' hb
         go_simp<;>rfl
        go_simp
        refine tkP 4 rfl rfl (by kernel_rfl) (fun _ _ _ h=>h) (fun _=>rfl) (v:=?_) (fun w'=>?_) ?_
        rotate_left
        ·go_simp<;>rfl
        go_simp
        refine tkP 5 rfl rfl (by kernel_rfl) (fun _ _ _ h=>h) (fun _=>rfl) (v:=?_) (fun w'=>?_) ?_
        rotate_left
        ·go_simp<;>rfl
        go_simp
        refine tkR 6 rfl rfl (by kernel_rfl) (fun _ _ _ h=>h) (fun _=>rfl) (v:=?_) (fun w' hb=>?_) ?_
        rotate_left
        ·obtain⟨q0,⟨qa0,qa1,qa2,qa3,qa4,qa5,qa6,qa7⟩,qx0,qx1,qx2,qx3,qx4,qx5,qx6,qx7⟩:=F w' hb
         go_simp<;>rfl
        go_simp
        refine tkR 7 rfl rfl (by kernel_rfl) (fun _ _ _ h=>h) (fun _=>rfl) (v:=?_) (fun w' hb=>?_) ?_
        rotate_left
        ·obtain⟨q0,⟨qa0,qa1,qa2,qa3,qa4,qa5,qa6,qa7⟩,qx0,qx1,qx2,qx3,qx4,qx5,qx6,qx7⟩:=F w' hb
         go_simp<;>rfl
        go_simp
        refine tkP 8 rfl rfl (by kernel_rfl) (fun _ _ _ h=>h) (fun _=>rfl) (v:=?_) (fun w'=>?_) ?_
        rotate_left
        ·go_simp<;>rfl
        go_simp
        clear F ou dD
        refine tpOne 9 rfl rfl (by kernel_rfl) fun K' hK'=>?_
        go_simp
        refine⟨trivial,hdd _,(callsIn_wide.2 ((qA (h0:=h1) (h:=h1) (p:=p) iD iY).run _ s.m.has (hg.trans s.sub))).mono ?_⟩
        intro e W1 hP;obtain⟨u,h1,rfl,t1,t2,t3,t4,r⟩:=post_ret hP;clear hP
        replace s:=s.call t1 t2 t3 t4
        obtain⟨p1,p2,p3,p4,p5,p6,p7,p8,p9,p10,p11,p12,p13,p14,p15,p16,e,rfl,r⟩:=r.sa
        refine hK' _ _ ⟨.inr (.inr t1),?_⟩
        clear hK' K'
        go_simp
        refine tkP 10 rfl rfl (by kernel_rfl) (fun _ _ _ h=>h) (fun _=>rfl) (v:=?_) (fun w'=>?_) ?_
        rotate_left
        ·go_simp<;>rfl
        go_simp
        refine tkP 11 rfl rfl (by kernel_rfl) (fun _ _ _ h=>h) (fun _=>rfl) (v:=?_) (fun w'=>?_) ?_
        rotate_left
        ·go_simp<;>rfl
        go_simp
        refine tkP 12 rfl rfl (by kernel_rfl) (fun _ _ _ h=>h) (fun _=>rfl) (v:=?_) (fun w'=>?_) ?_
        rotate_left
        ·go_simp<;>rfl
        go_simp
        refine tpOne 13 rfl rfl (by kernel_rfl) fun K' hK'=>?_
        obtain⟨T,hT⟩:=s.at_
        refine wpIn_store_box (M:=mach) rfl B 0 [.bool p1,.slice p2 p3 p4,.slice p5 p6 p7,.bool p8,.slice p9 p10 p11,.slice p12 p13 p14,.bool p15,.bool p16] _ rfl (by go_simp<;>rfl) (by go_simp<;>rfl) htk rfl rfl hT (by simp) ?_
        intro W3 hW3 hg3
        have s':=s.fill (vs:=[.bool p1,.slice p2 p3 p4,.slice p5 p6 p7,.bool p8,.slice p9 p10 p11,.slice p12 p13 p14,.bool p15,.bool p16]) rfl rfl hW3 hg3
        clear s;have s:=s';clear s'
        refine hK' _ _ ⟨.inl rfl,?_⟩
        clear hK' K' hT hW3 hg3
        go_simp
        refine tkP 14 rfl rfl (by kernel_rfl) (fun _ _ _ h=>h) (fun _=>rfl) (v:=?_) (fun w'=>?_) ?_
        rotate_left
        ·go_simp<;>rfl
        go_simp
        refine doneB (by kernel_rfl) ?_ 0
        replace r:Ir h1 _ (subE p (M i j) y.ri):=r
        rw[←elE_ok (kk:=M k k) (ij:=M i j) ex ey] at r
        gi_wp2
        ·go_ret
         exact .inr ⟨rfl,not_elB (by omega) (by omega) (by omega) (r.bad (by simpa using (show(e != 0)=true by assumption))),h1,_,s.toElS⟩
        ·skip
         have hez:Enz (elE p (M k k) (M k i) (M k j) (M i j)):=by rw[elE_ok ex ey];exact subE_nz
         obtain rfl:e=0:=by simpa using (show(e != 0)=false by assumption)
         obtain⟨z,ez,cz⟩:=r.good hez
         replace s:=s.drew
         have iZ:=cz.iv (by rw[elE_ok ex ey] at ez;exact fin2_le ez)
         have ou:=s.m.outer i (by omega)
         have F:=fun w' (hb:Below W3.drew.heap.size W3.drew w')=>And.intro (cellB hb ou) (let q:=s.k8;And.intro (cellB hb q.1) (And.intro (cellB hb q.2.1) (And.intro (cellB hb q.2.2.1) (And.intro (cellB hb q.2.2.2.1) (And.intro (cellB hb q.2.2.2.2.1) (And.intro (cellB hb q.2.2.2.2.2.1) (And.intro (cellB hb q.2.2.2.2.2.2.1) (cellB hb q.2.2.2.2.2.2.2))))))))
         refine wpIn_region_b hmix ?_
         refine tkP 0 rfl rfl (by kernel_rfl) (fun _ _ _ h=>h) (fun _=>rfl) (v:=?_) (fun w'=>?_) ?_
         rotate_left
         ·go_simp<;>rfl
         go_simp
         refine tkP 1 rfl rfl (by kernel_rfl) (fun _ _ _ h=>h) (fun _=>rfl) (v:=?_) (fun w'=>?_) ?_
         rotate_left
         ·go_simp<;>rfl
         go_simp
         refine tkP 2 rfl rfl (by kernel_rfl) (fun _ _ _ h=>h) (fun _=>rfl) (v:=?_) (fun w'=>?_) ?_
         rotate_left
         ·go_simp<;>rfl
         go_simp
         refine tkR 3 rfl rfl (by kernel_rfl) (fun _ _ _ h=>h) (fun _=>rfl) (v:=?_) (fun w' hb=>?_) ?_
         rotate_left
         ·obtain⟨q0,qx0,qx1,qx2,qx3,qx4,qx5,qx6,qx7⟩:=F w' hb
          go_simp<;>rfl
         go_simp
         refine tkP 4 rfl rfl (by kernel_rfl) (fun _ _ _ h=>h) (fun _=>rfl) (v:=?_) (fun w'=>?_) ?_
         rotate_left
         ·go_simp<;>rfl
         go_simp
         refine tkR 5 rfl rfl (by kernel_rfl) (fun _ _ _ h=>h) (fun _=>rfl) (v:=?_) (fun w' hb=>?_) ?_
         rotate_left
         ·obtain⟨q0,qx0,qx1,qx2,qx3,qx4,qx5,qx6,qx7⟩:=F w' hb
          go_simp<;>rfl
         go_simp
         refine tkP 6 rfl rfl (by kernel_rfl) (fun _ _ _ h=>h) (fun _=>rfl) (v:=?_) (fun w'=>?_) ?_
         rotate_left
         ·go_simp<;>rfl
         go_simp
         clear F ou
         refine tpOne 7 rfl rfl (by kernel_rfl) fun K' hK'=>?_
         obtain⟨cs,T,hT,hl,_⟩:=s.m.row i (by omega)
         refine wpIn_store_box (M:=mach) rfl (g i) (j*8) [.bool p1,.slice p2 p3 p4,.slice p5 p6 p7,.bool p8,.slice p9 p10 p11,.slice p12 p13 p14,.bool p15,.bool p16] _ rfl (by go_simp<;>rfl) (by go_simp<;>rfl) htk rfl rfl hT (by simp;omega) ?_
         intro W4 hW4 hg4
         have s4:=s.toElS.set (by omega) (by omega) hT (vs:=[.bool p1,.slice p2 p3 p4,.slice p5 p6 p7,.bool p8,.slice p9 p10 p11,.slice p12 p13 p14,.bool p15,.bool p16]) rfl iZ hW4 hg4
         rw[stM_next (by omega) (by omega) ez] at s4
         refine hK' _ _ ⟨.inl rfl,?_⟩
         clear hK' K' hT hW4 hg4
         go_simp
         refine doneB (by kernel_rfl) ?_ 0
         gi_wp2
         go_roundw
         case rel=>exact⟨_,j+1,by omega,by omega,by omega,rfl,stB_next hst (by rw[ez];rfl),h1,s4⟩
         case measure=>simp[RowKit.intOf];omega
    ·gi_wp2
     obtain rfl:j=n:=by omega
     go_roundw
     case rel=>exact⟨_,i+1,by omega,by omega,by omega,rfl,fun a b h1 h2 h3 h4=>hst a b h1 h2 h3 (by omega),hp,s.kx,s.sub,s.new,s.m.congr fun a b hb=>stM_line hb⟩
     case measure=>simp[RowKit.intOf];omega
  ·gi_wp2
   obtain rfl:i=n:=by omega
   go_ret
   exact .inl ⟨rfl,fun a b h1 h2 h3=>hst0 a b h1 h2 h3 (.inl (by omega)),hp0,hI.kx,hI.sub,hI.new,hI.m.congr fun a b hb=>stM_all hb⟩

end Go.Q
