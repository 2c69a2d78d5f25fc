/-
  Contracts of package interval, and what stands on it. Conditions: each theorem's own.
-/
import Derived.Test.YtdhfkmaejkgceaaGreatDoorK8620acPkG
import Derived.Test.YtdhfkmaejkgceaaGreatDoorKd5888dPkO
import Derived.Test.YtdhfkmaejkgceaaGreatDoorK84a2d9PkN
set_option linter.unusedVariables false
set_option linter.unusedSimpArgs false
open Nat renaming reduceBEq→ξ,reduceAdd→ζ,le_trans→χ,le_refl→η,one_mul→qBm
open Bool renaming false_eq_true→qAw
namespace Go.Q
open Go.Proofs
set_option maxRecDepth 100000
set_option maxHeartbeats 16000000
theorem NS.le30' {x:NS} (h:x.le 4096):x.le (2^30):=h.up (by decide)
theorem Pt.up {z:Pt} {k m:Nat} (h:z.le k) (hm:k≤m):z.le m:=by
 cases z with
 |fin q=>exact χ h hm
 |inf u=>trivial
theorem qR {a:Option Rat} {k:Nat} (h:∀q,a=some q→sz q≤k):(lowP a).le k:=by
 cases a with
 |none=>trivial
 |some q=>exact h q rfl
theorem og {a:Option Rat} {k:Nat} (h:∀q,a=some q→sz q≤k):(highP a).le k:=by
 cases a with
 |none=>trivial
 |some q=>exact h q rfl
theorem Ao {h0 h:PH} [Le h0 h] {v w:Value} {a b c d:Option Rat} (hs:Sn h0 v (.i a b)) (ht:Sn h0 w (.i c d)) (ls:(NS.i a b).le 2048) (lt:(NS.i c d).le 2048):
    Spec mach 126 #[v,w] h (fun v h'=>Sn h' v ((NS.i a b).prod (.i c d))) NP:=by
  rw[NS.le_i] at ls lt
  have la0:=qR ls.1
  have lb0:=og ls.2
  have lc0:=qR lt.1
  have ld0:=og lt.2
  have la:=Pt.up (m:=2^30) la0 (by decide)
  have lb:=Pt.up (m:=2^30) lb0 (by decide)
  have lc:=Pt.up (m:=2^30) lc0 (by decide)
  have ld:=Pt.up (m:=2^30) ld0 (by decide)
  have kA:=fun {h} [Le h0 h]=>y8 (h:=h) hs
  have kB:=fun {h} [Le h0 h]=>y8 (h:=h) ht
  have he:=wr (a:=a) (b:=b) (c:=c) (d:=d)
  obtain⟨b1,a1,m1,c1,a2,m2,c2,b2,a3,m3,c3,a4,m4,c4,rfl,_,_⟩:=hs.ie
  obtain⟨b1',a1',m1',c1',a2',m2',c2',b2',a3',m3',c3',a4',m4',c4',rfl,_,_⟩:=ht.ie
  show Spec _ _ _ _ (fun v h'=>Sn h' v (fin3 (outer (lowP a) (highP b) (lowP c) (highP d) 2))) _
  generalize lowP a=x1 at*
  generalize highP b=x2 at*
  generalize lowP c=y1 at*
  generalize highP d=y2 at*
  refine Spec.go [] Tryz.func126 rfl rfl (by kernel_rfl) fun C _=>?_
  try simp(maxSteps:=999999) (disch:=omega) only[go_sem,ξ,ζ,Int.toNat_one,Nat.zero_mul,qBm,Nat.zero_add,List.set_cons_zero,List.set_cons_succ]
  refine caN (by exact kA) ?_;rintro w1 h1 s1 zz1;obtain⟨p1,p2,p3,p4,p5,p6,p7,q1,q2,q3,q4,q5,q6,q7,rfl,ea,eb⟩:=zz1
  try simp(maxSteps:=999999) (disch:=omega) only[go_sem,ξ,ζ,Int.toNat_one,Nat.zero_mul,qBm,Nat.zero_add,List.set_cons_zero,List.set_cons_succ]
  refine lpSl [] (fun x:Nat×List Value×Bool×Bool=>⟨[(3,.p 1 0),(4,.p 2 0),(5,.p 3 0),(6,.v (.bool x.2.2.1)),(7,.v (.bool x.2.2.2)),(15,.v (.agg #[.bool p1,.slice p2 p3 p4,.slice p5 p6 p7,.int .i64 x1.side,.bool q1,.slice q2 q3 q4,.slice q5 q6 q7,.int .i64 x2.side])),(16,.v (.int .i64 x.1))],[[.bool b1,.slice a1 m1 c1,.slice a2 m2 c2,.bool b2,.slice a3 m3 c3,.slice a4 m4 c4,.bool a.isNone,.bool b.isNone,.bool false],[.bool b1',.slice a1' m1' c1',.slice a2' m2' c2',.bool b2',.slice a3' m3' c3',.slice a4' m4' c4',.bool c.isNone,.bool d.isNone,.bool false],[.bool false,.slice none 0 0,.slice none 0 0,.bool false,.slice none 0 0,.slice none 0 0,.bool false,.bool false,.bool false],x.2.1]⟩) (fun x h'=>Le h1 h'∧x.1≤2∧∃J,Sn h' (.agg x.2.1.toArray) J∧NS.pts 4096 (J,x.2.2.1,x.2.2.2)∧outer x1 x2 y1 y2 x.1=(J,x.2.2.1,x.2.2.2)) (fun x=>2 - x.1) (0,[.bool false,.slice none 0 0,.slice none 0 0,.bool false,.slice none 0 0,.slice none 0 0,.bool false,.bool false,.bool true],false,false) [0,1,2,3] ?_ ⟨inferInstance,by decide,.e,⟨_,_,_,_,_,_,_,_,rfl,En.nil _,En.nil _⟩,⟨trivial,rfl,.inl rfl⟩,rfl⟩ (by kernel_rfl) ?_
  · try simp(maxSteps:=999999) (disch:=omega) only[go_sem,ξ,ζ,aJ,Int.toNat_one,Nat.zero_mul,qBm,Nat.zero_add,List.set_cons_zero,List.set_cons_succ]
  rintro⟨i,cs,lo,hi⟩ h2 ⟨le2,hi2,J,hJ,hpt,hacc⟩
  have leh:Le h0 h2:=Le.tr inferInstance le2
  dsimp only at*
  obtain⟨g1,g2,g3,g4,g5,g6,g7,g8,g9,ga,gb,gc,gd,ge,gl,gu,gv,rfl⟩:∃g1 g2 g3 g4 g5 g6 g7 g8 g9 ga gb gc gd ge gl gu gv,cs=[.bool g1,.slice g2 g3 g4,.slice g5 g6 g7,.bool g8,.slice g9 ga gb,.slice gc gd ge,.bool gl,.bool gu,.bool gv]:=by
    obtain⟨_,_,_,_,_,_,_,_,_,_,_,_,_,_,_,_,e,_⟩:=hJ.sa
    simp only[Value.agg.injEq,Array.mk.injEq] at e
    exact⟨_,_,_,_,_,_,_,_,_,_,_,_,_,_,_,_,_,e⟩
  obtain rfl |rfl |rfl:i=2∨i=0∨i=1:=by omega
  · rw[hacc] at he
    try simp(maxSteps:=999999) (disch:=omega) only[go_sem,ξ,ζ,Int.toNat_one,Nat.zero_mul,qBm,Nat.zero_add,List.set_cons_zero,List.set_cons_succ]
    rw[hacc]
    cases J with
    | e=>
      obtain⟨rfl,rfl⟩:lo=true∧hi=true:=by have:=he rfl;simpa using this
      obtain⟨_,_,_,_,_,_,_,_,e,j1,j2⟩:=hJ
      simp only[Value.agg.injEq,Array.mk.injEq,List.cons.injEq,and_true,Value.bool.injEq] at e
      obtain⟨rfl,rfl,rfl,rfl,rfl,rfl,_⟩:=e
      exact⟨_,_,_,_,_,_,rfl,j1,j2⟩
    | i l u=>
      obtain⟨_,_,_,_,_,_,e,j1,j2⟩:=hJ
      simp only[Value.agg.injEq,Array.mk.injEq,List.cons.injEq,and_true,Value.bool.injEq] at e
      obtain⟨rfl,rfl,rfl,rfl,rfl,rfl,_⟩:=e
      obtain⟨l,u,e⟩:=hpt.2.2.resolve_left (fun k=>by cases k)
      cases e
      cases lo<;>cases hi<;>exact⟨_,_,_,_,_,_,rfl,by first |exact j1 |exact j1.junk,by first |exact j2 |exact j2.junk⟩
  · try simp(maxSteps:=999999) (disch:=omega) only[go_sem,ξ,ζ,Int.toNat_one,Nat.zero_mul,qBm,Nat.zero_add,List.set_cons_zero,List.set_cons_succ]
    refine caN (by exact kB) ?_;rintro w3 h3 s3 zz3;obtain⟨r1,r2,r3,r4,r5,r6,r7,t1,t2,t3,t4,t5,t6,t7,rfl,ec,ed⟩:=zz3
    try simp(maxSteps:=999999) (disch:=omega) only[go_sem,ξ,ζ,Int.toNat_one,Nat.zero_mul,qBm,Nat.zero_add,List.set_cons_zero,List.set_cons_succ]
    have eX:=ea.to (h':=h3)
    have hO:outer x1 x2 y1 y2 (0+1)=inn x1 y1 y2 (J,lo,hi) 2:=by rw[←hacc];rfl
    have lX:x1.le (2^30):=la
    have lX0:x1.le 2048:=la0
    obtain⟨o,ho⟩:∃o,(J,lo,hi)=o:=⟨_,rfl⟩
    rw[ho] at hO
    refine lpSl [] (fun x:Nat×List Value×Bool×Bool=>⟨[(3,.p 1 0),(4,.p 2 0),(5,.p 3 0),(6,.v (.bool x.2.2.1)),(7,.v (.bool x.2.2.2)),(9,.p 4 0),(15,.v (.agg #[.bool p1,.slice p2 p3 p4,.slice p5 p6 p7,.int .i64 x1.side,.bool q1,.slice q2 q3 q4,.slice q5 q6 q7,.int .i64 x2.side])),(16,.v (.int .i64 0)),(20,.v (.agg #[.bool r1,.slice r2 r3 r4,.slice r5 r6 r7,.int .i64 y1.side,.bool t1,.slice t2 t3 t4,.slice t5 t6 t7,.int .i64 y2.side])),(21,.v (.int .i64 x.1))],[[.bool b1,.slice a1 m1 c1,.slice a2 m2 c2,.bool b2,.slice a3 m3 c3,.slice a4 m4 c4,.bool a.isNone,.bool b.isNone,.bool false],[.bool b1',.slice a1' m1' c1',.slice a2' m2' c2',.bool b2',.slice a3' m3' c3',.slice a4' m4' c4',.bool c.isNone,.bool d.isNone,.bool false],[.bool false,.slice none 0 0,.slice none 0 0,.bool false,.slice none 0 0,.slice none 0 0,.bool false,.bool false,.bool false],x.2.1,[.bool p1,.slice p2 p3 p4,.slice p5 p6 p7,.int .i64 x1.side]]⟩) (fun x h'=>Le h3 h'∧x.1≤2∧∃J,Sn h' (.agg x.2.1.toArray) J∧NS.pts 4096 (J,x.2.2.1,x.2.2.2)∧inn x1 y1 y2 o x.1=(J,x.2.2.1,x.2.2.2)) (fun x=>2 - x.1) (0,_,lo,hi) [0,1,2,3,4] ?_ ⟨inferInstance,(show 0≤2 by decide),J,hJ.to (h':=h3),hpt,ho.symm⟩ (by kernel_rfl) ?_
    · try simp(maxSteps:=999999) (disch:=omega) only[go_sem,ξ,ζ,aJ,Int.toNat_one,Nat.zero_mul,qBm,Nat.zero_add,List.set_cons_zero,List.set_cons_succ]
    clear hJ hpt hacc ho
    rintro⟨j,cs,lo,hi⟩ h4 ⟨le4,hj,J,hJ,hpt,hacc⟩
    dsimp only at*
    generalize hX:x1=X at*
    obtain⟨k1,k2,k3,k4,k5,k6,k7,k8,k9,ka,kb,kc,kd,ke,kl,ku,kv,rfl⟩:∃k1 k2 k3 k4 k5 k6 k7 k8 k9 ka kb kc kd ke kl ku kv,cs=[.bool k1,.slice k2 k3 k4,.slice k5 k6 k7,.bool k8,.slice k9 ka kb,.slice kc kd ke,.bool kl,.bool ku,.bool kv]:=by
      obtain⟨_,_,_,_,_,_,_,_,_,_,_,_,_,_,_,_,e,_⟩:=hJ.sa
      simp only[Value.agg.injEq,Array.mk.injEq] at e
      exact⟨_,_,_,_,_,_,_,_,_,_,_,_,_,_,_,_,_,e⟩
    obtain rfl |rfl |rfl:j=2∨j=0∨j=1:=by omega
    · try simp(maxSteps:=999999) (disch:=omega) only[go_sem,ξ,ζ,Int.toNat_one,Nat.zero_mul,qBm,Nat.zero_add,List.set_cons_zero,List.set_cons_succ]
      dsimp only[lpS];refine⟨(0+1,_,lo,hi),[0,1,2,3],?_,⟨Le.tr le2 (Le.tr inferInstance le4),(show 0+1≤2 by decide),J,hJ,hpt,by rw[hO];exact hacc⟩,(show 2 - (0+1) < 2 - 0 by decide)⟩
      try simp(maxSteps:=999999) (disch:=omega) only[go_sem,ξ,ζ,aJ,Int.toNat_one,Nat.zero_mul,qBm,Nat.zero_add,List.set_cons_zero,List.set_cons_succ]
      all_goals rfl
    · try simp(maxSteps:=999999) (disch:=omega) only[go_sem,ξ,ζ,Int.toNat_one,Nat.zero_mul,qBm,Nat.zero_add,List.set_cons_zero,List.set_cons_succ]
      refine caN (by exact pc (eX.to (h':=h4)) (ec.to (h':=h4)) lX lc) ?_;rintro w5 h5 s5 zz5;obtain⟨f1,f2,f3,f4,f5,f6,f7,rfl,zz5c⟩:=zz5.sa
      try simp(maxSteps:=999999) (disch:=omega) only[go_sem,ξ,ζ,Int.toNat_one,Nat.zero_mul,qBm,Nat.zero_add,List.set_cons_zero,List.set_cons_succ]
      have lz:=lU lX0 lc0 (by decide)
      have hz:inn X y1 y2 o (0+1)=stp (J,lo,hi) (X.mul y1):=by rw[←hacc];rfl
      generalize X.mul y1=z at*
      cases z with
      | fin q=>
        dsimp only[Pt.side] at*
        try simp(maxSteps:=999999) (disch:=omega) only[go_sem,ξ,ζ,Int.toNat_one,Nat.zero_mul,qBm,Nat.zero_add,List.set_cons_zero,List.set_cons_succ]
        refine caN (by exact qU zz5c.num) ?_;rintro _ h6 _ zz6;obtain⟨_,_,_,_,_,_,_,_,_,_,_,_,_,_,_,_,rfl,zz6⟩:=zz6.sa
        try simp(maxSteps:=999999) (disch:=omega) only[go_sem,ξ,ζ,Int.toNat_one,Nat.zero_mul,qBm,Nat.zero_add,List.set_cons_zero,List.set_cons_succ]
        refine caN (by exact mS (hJ.to (h':=h6)) zz6 (NS.le30' hpt.2.1) (NS.le30' (le_pt lz))) ?_;rintro _ h7 _ zz7;obtain⟨_,_,_,_,_,_,_,_,_,_,_,_,_,_,_,_,rfl,zz7⟩:=zz7.sa
        try simp(maxSteps:=999999) (disch:=omega) only[go_sem,ξ,ζ,Int.toNat_one,Nat.zero_mul,qBm,Nat.zero_add,List.set_cons_zero,List.set_cons_succ]
        dsimp only[lpS];refine⟨(0+1,_,lo,hi),[0,1,2,3,4],?_,⟨inferInstance,(show 0+1≤2 by decide),_,zz7,ja (z:=.fin q) hpt lz,hz⟩,(show 2 - (0+1) < 2 - 0 by decide)⟩
        try simp(maxSteps:=999999) (disch:=omega) only[go_sem,ξ,ζ,aJ,Int.toNat_one,Nat.zero_mul,qBm,Nat.zero_add,List.set_cons_zero,List.set_cons_succ]
        all_goals rfl
      | inf up=>
        cases up with
        | true=>
          dsimp only[Pt.side] at*
          simp only[if_true,if_false,qAw,reduceIte] at*
          try simp(maxSteps:=999999) (disch:=omega) only[go_sem,ξ,ζ,Int.toNat_one,Nat.zero_mul,qBm,Nat.zero_add,List.set_cons_zero,List.set_cons_succ]
          dsimp only[lpS];refine⟨(0+1,_,lo,true),[0,1,2,3,4],?_,⟨inferInstance,(show 0+1≤2 by decide),_,hJ.to (h':=h5),hpt,hz⟩,(show 2 - (0+1) < 2 - 0 by decide)⟩
          try simp(maxSteps:=999999) (disch:=omega) only[go_sem,ξ,ζ,aJ,Int.toNat_one,Nat.zero_mul,qBm,Nat.zero_add,List.set_cons_zero,List.set_cons_succ]
          all_goals rfl
        | false=>
          dsimp only[Pt.side] at*
          simp only[if_true,if_false,qAw,reduceIte] at*
          try simp(maxSteps:=999999) (disch:=omega) only[go_sem,ξ,ζ,Int.toNat_one,Nat.zero_mul,qBm,Nat.zero_add,List.set_cons_zero,List.set_cons_succ]
          dsimp only[lpS];refine⟨(0+1,_,true,hi),[0,1,2,3,4],?_,⟨inferInstance,(show 0+1≤2 by decide),_,hJ.to (h':=h5),hpt,hz⟩,(show 2 - (0+1) < 2 - 0 by decide)⟩
          try simp(maxSteps:=999999) (disch:=omega) only[go_sem,ξ,ζ,aJ,Int.toNat_one,Nat.zero_mul,qBm,Nat.zero_add,List.set_cons_zero,List.set_cons_succ]
          all_goals rfl
    · try simp(maxSteps:=999999) (disch:=omega) only[go_sem,ξ,ζ,Int.toNat_one,Nat.zero_mul,qBm,Nat.zero_add,List.set_cons_zero,List.set_cons_succ]
      refine caN (by exact pc (eX.to (h':=h4)) (ed.to (h':=h4)) lX ld) ?_;rintro w5 h5 s5 zz5;obtain⟨f1,f2,f3,f4,f5,f6,f7,rfl,zz5c⟩:=zz5.sa
      try simp(maxSteps:=999999) (disch:=omega) only[go_sem,ξ,ζ,Int.toNat_one,Nat.zero_mul,qBm,Nat.zero_add,List.set_cons_zero,List.set_cons_succ]
      have lz:=lU lX0 ld0 (by decide)
      have hz:inn X y1 y2 o (1+1)=stp (J,lo,hi) (X.mul y2):=by rw[←hacc];rfl
      generalize X.mul y2=z at*
      cases z with
      | fin q=>
        dsimp only[Pt.side] at*
        try simp(maxSteps:=999999) (disch:=omega) only[go_sem,ξ,ζ,Int.toNat_one,Nat.zero_mul,qBm,Nat.zero_add,List.set_cons_zero,List.set_cons_succ]
        refine caN (by exact qU zz5c.num) ?_;rintro _ h6 _ zz6;obtain⟨_,_,_,_,_,_,_,_,_,_,_,_,_,_,_,_,rfl,zz6⟩:=zz6.sa
        try simp(maxSteps:=999999) (disch:=omega) only[go_sem,ξ,ζ,Int.toNat_one,Nat.zero_mul,qBm,Nat.zero_add,List.set_cons_zero,List.set_cons_succ]
        refine caN (by exact mS (hJ.to (h':=h6)) zz6 (NS.le30' hpt.2.1) (NS.le30' (le_pt lz))) ?_;rintro _ h7 _ zz7;obtain⟨_,_,_,_,_,_,_,_,_,_,_,_,_,_,_,_,rfl,zz7⟩:=zz7.sa
        try simp(maxSteps:=999999) (disch:=omega) only[go_sem,ξ,ζ,Int.toNat_one,Nat.zero_mul,qBm,Nat.zero_add,List.set_cons_zero,List.set_cons_succ]
        dsimp only[lpS];refine⟨(1+1,_,lo,hi),[0,1,2,3,4],?_,⟨inferInstance,(show 1+1≤2 by decide),_,zz7,ja (z:=.fin q) hpt lz,hz⟩,(show 2 - (1+1) < 2 - 1 by decide)⟩
        try simp(maxSteps:=999999) (disch:=omega) only[go_sem,ξ,ζ,aJ,Int.toNat_one,Nat.zero_mul,qBm,Nat.zero_add,List.set_cons_zero,List.set_cons_succ]
        all_goals rfl
      | inf up=>
        cases up with
        | true=>
          dsimp only[Pt.side] at*
          simp only[if_true,if_false,qAw,reduceIte] at*
          try simp(maxSteps:=999999) (disch:=omega) only[go_sem,ξ,ζ,Int.toNat_one,Nat.zero_mul,qBm,Nat.zero_add,List.set_cons_zero,List.set_cons_succ]
          dsimp only[lpS];refine⟨(1+1,_,lo,true),[0,1,2,3,4],?_,⟨inferInstance,(show 1+1≤2 by decide),_,hJ.to (h':=h5),hpt,hz⟩,(show 2 - (1+1) < 2 - 1 by decide)⟩
          try simp(maxSteps:=999999) (disch:=omega) only[go_sem,ξ,ζ,aJ,Int.toNat_one,Nat.zero_mul,qBm,Nat.zero_add,List.set_cons_zero,List.set_cons_succ]
          all_goals rfl
        | false=>
          dsimp only[Pt.side] at*
          simp only[if_true,if_false,qAw,reduceIte] at*
          try simp(maxSteps:=999999) (disch:=omega) only[go_sem,ξ,ζ,Int.toNat_one,Nat.zero_mul,qBm,Nat.zero_add,List.set_cons_zero,List.set_cons_succ]
          dsimp only[lpS];refine⟨(1+1,_,true,hi),[0,1,2,3,4],?_,⟨inferInstance,(show 1+1≤2 by decide),_,hJ.to (h':=h5),hpt,hz⟩,(show 2 - (1+1) < 2 - 1 by decide)⟩
          try simp(maxSteps:=999999) (disch:=omega) only[go_sem,ξ,ζ,aJ,Int.toNat_one,Nat.zero_mul,qBm,Nat.zero_add,List.set_cons_zero,List.set_cons_succ]
          all_goals rfl
  · try simp(maxSteps:=999999) (disch:=omega) only[go_sem,ξ,ζ,Int.toNat_one,Nat.zero_mul,qBm,Nat.zero_add,List.set_cons_zero,List.set_cons_succ]
    refine caN (by exact kB) ?_;rintro w3 h3 s3 zz3;obtain⟨r1,r2,r3,r4,r5,r6,r7,t1,t2,t3,t4,t5,t6,t7,rfl,ec,ed⟩:=zz3
    try simp(maxSteps:=999999) (disch:=omega) only[go_sem,ξ,ζ,Int.toNat_one,Nat.zero_mul,qBm,Nat.zero_add,List.set_cons_zero,List.set_cons_succ]
    have eX:=eb.to (h':=h3)
    have hO:outer x1 x2 y1 y2 (1+1)=inn x2 y1 y2 (J,lo,hi) 2:=by rw[←hacc];rfl
    have lX:x2.le (2^30):=lb
    have lX0:x2.le 2048:=lb0
    obtain⟨o,ho⟩:∃o,(J,lo,hi)=o:=⟨_,rfl⟩
    rw[ho] at hO
    refine lpSl [] (fun x:Nat×List Value×Bool×Bool=>⟨[(3,.p 1 0),(4,.p 2 0),(5,.p 3 0),(6,.v (.bool x.2.2.1)),(7,.v (.bool x.2.2.2)),(9,.p 4 0),(15,.v (.agg #[.bool p1,.slice p2 p3 p4,.slice p5 p6 p7,.int .i64 x1.side,.bool q1,.slice q2 q3 q4,.slice q5 q6 q7,.int .i64 x2.side])),(16,.v (.int .i64 1)),(20,.v (.agg #[.bool r1,.slice r2 r3 r4,.slice r5 r6 r7,.int .i64 y1.side,.bool t1,.slice t2 t3 t4,.slice t5 t6 t7,.int .i64 y2.side])),(21,.v (.int .i64 x.1))],[[.bool b1,.slice a1 m1 c1,.slice a2 m2 c2,.bool b2,.slice a3 m3 c3,.slice a4 m4 c4,.bool a.isNone,.bool b.isNone,.bool false],[.bool b1',.slice a1' m1' c1',.slice a2' m2' c2',.bool b2',.slice a3' m3' c3',.slice a4' m4' c4',.bool c.isNone,.bool d.isNone,.bool false],[.bool false,.slice none 0 0,.slice none 0 0,.bool false,.slice none 0 0,.slice none 0 0,.bool false,.bool false,.bool false],x.2.1,[.bool q1,.slice q2 q3 q4,.slice q5 q6 q7,.int .i64 x2.side]]⟩) (fun x h'=>Le h3 h'∧x.1≤2∧∃J,Sn h' (.agg x.2.1.toArray) J∧NS.pts 4096 (J,x.2.2.1,x.2.2.2)∧inn x2 y1 y2 o x.1=(J,x.2.2.1,x.2.2.2)) (fun x=>2 - x.1) (0,_,lo,hi) [0,1,2,3,4] ?_ ⟨inferInstance,(show 0≤2 by decide),J,hJ.to (h':=h3),hpt,ho.symm⟩ (by kernel_rfl) ?_
    · try simp(maxSteps:=999999) (disch:=omega) only[go_sem,ξ,ζ,aJ,Int.toNat_one,Nat.zero_mul,qBm,Nat.zero_add,List.set_cons_zero,List.set_cons_succ]
    clear hJ hpt hacc ho
    rintro⟨j,cs,lo,hi⟩ h4 ⟨le4,hj,J,hJ,hpt,hacc⟩
    dsimp only at*
    generalize hX:x2=X at*
    obtain⟨k1,k2,k3,k4,k5,k6,k7,k8,k9,ka,kb,kc,kd,ke,kl,ku,kv,rfl⟩:∃k1 k2 k3 k4 k5 k6 k7 k8 k9 ka kb kc kd ke kl ku kv,cs=[.bool k1,.slice k2 k3 k4,.slice k5 k6 k7,.bool k8,.slice k9 ka kb,.slice kc kd ke,.bool kl,.bool ku,.bool kv]:=by
      obtain⟨_,_,_,_,_,_,_,_,_,_,_,_,_,_,_,_,e,_⟩:=hJ.sa
      simp only[Value.agg.injEq,Array.mk.injEq] at e
      exact⟨_,_,_,_,_,_,_,_,_,_,_,_,_,_,_,_,_,e⟩
    obtain rfl |rfl |rfl:j=2∨j=0∨j=1:=by omega
    · try simp(maxSteps:=999999) (disch:=omega) only[go_sem,ξ,ζ,Int.toNat_one,Nat.zero_mul,qBm,Nat.zero_add,List.set_cons_zero,List.set_cons_succ]
      dsimp only[lpS];refine⟨(1+1,_,lo,hi),[0,1,2,3],?_,⟨Le.tr le2 (Le.tr inferInstance le4),(show 1+1≤2 by decide),J,hJ,hpt,by rw[hO];exact hacc⟩,(show 2 - (1+1) < 2 - 1 by decide)⟩
      try simp(maxSteps:=999999) (disch:=omega) only[go_sem,ξ,ζ,aJ,Int.toNat_one,Nat.zero_mul,qBm,Nat.zero_add,List.set_cons_zero,List.set_cons_succ]
      all_goals rfl
    · try simp(maxSteps:=999999) (disch:=omega) only[go_sem,ξ,ζ,Int.toNat_one,Nat.zero_mul,qBm,Nat.zero_add,List.set_cons_zero,List.set_cons_succ]
      refine caN (by exact pc (eX.to (h':=h4)) (ec.to (h':=h4)) lX lc) ?_;rintro w5 h5 s5 zz5;obtain⟨f1,f2,f3,f4,f5,f6,f7,rfl,zz5c⟩:=zz5.sa
      try simp(maxSteps:=999999) (disch:=omega) only[go_sem,ξ,ζ,Int.toNat_one,Nat.zero_mul,qBm,Nat.zero_add,List.set_cons_zero,List.set_cons_succ]
      have lz:=lU lX0 lc0 (by decide)
      have hz:inn X y1 y2 o (0+1)=stp (J,lo,hi) (X.mul y1):=by rw[←hacc];rfl
      generalize X.mul y1=z at*
      cases z with
      | fin q=>
        dsimp only[Pt.side] at*
        try simp(maxSteps:=999999) (disch:=omega) only[go_sem,ξ,ζ,Int.toNat_one,Nat.zero_mul,qBm,Nat.zero_add,List.set_cons_zero,List.set_cons_succ]
        refine caN (by exact qU zz5c.num) ?_;rintro _ h6 _ zz6;obtain⟨_,_,_,_,_,_,_,_,_,_,_,_,_,_,_,_,rfl,zz6⟩:=zz6.sa
        try simp(maxSteps:=999999) (disch:=omega) only[go_sem,ξ,ζ,Int.toNat_one,Nat.zero_mul,qBm,Nat.zero_add,List.set_cons_zero,List.set_cons_succ]
        refine caN (by exact mS (hJ.to (h':=h6)) zz6 (NS.le30' hpt.2.1) (NS.le30' (le_pt lz))) ?_;rintro _ h7 _ zz7;obtain⟨_,_,_,_,_,_,_,_,_,_,_,_,_,_,_,_,rfl,zz7⟩:=zz7.sa
        try simp(maxSteps:=999999) (disch:=omega) only[go_sem,ξ,ζ,Int.toNat_one,Nat.zero_mul,qBm,Nat.zero_add,List.set_cons_zero,List.set_cons_succ]
        dsimp only[lpS];refine⟨(0+1,_,lo,hi),[0,1,2,3,4],?_,⟨inferInstance,(show 0+1≤2 by decide),_,zz7,ja (z:=.fin q) hpt lz,hz⟩,(show 2 - (0+1) < 2 - 0 by decide)⟩
        try simp(maxSteps:=999999) (disch:=omega) only[go_sem,ξ,ζ,aJ,Int.toNat_one,Nat.zero_mul,qBm,Nat.zero_add,List.set_cons_zero,List.set_cons_succ]
        all_goals rfl
      | inf up=>
        cases up with
        | true=>
          dsimp only[Pt.side] at*
          simp only[if_true,if_false,qAw,reduceIte] at*
          try simp(maxSteps:=999999) (disch:=omega) only[go_sem,ξ,ζ,Int.toNat_one,Nat.zero_mul,qBm,Nat.zero_add,List.set_cons_zero,List.set_cons_succ]
          dsimp only[lpS];refine⟨(0+1,_,lo,true),[0,1,2,3,4],?_,⟨inferInstance,(show 0+1≤2 by decide),_,hJ.to (h':=h5),hpt,hz⟩,(show 2 - (0+1) < 2 - 0 by decide)⟩
          try simp(maxSteps:=999999) (disch:=omega) only[go_sem,ξ,ζ,aJ,Int.toNat_one,Nat.zero_mul,qBm,Nat.zero_add,List.set_cons_zero,List.set_cons_succ]
          all_goals rfl
        | false=>
          dsimp only[Pt.side] at*
          simp only[if_true,if_false,qAw,reduceIte] at*
          try simp(maxSteps:=999999) (disch:=omega) only[go_sem,ξ,ζ,Int.toNat_one,Nat.zero_mul,qBm,Nat.zero_add,List.set_cons_zero,List.set_cons_succ]
          dsimp only[lpS];refine⟨(0+1,_,true,hi),[0,1,2,3,4],?_,⟨inferInstance,(show 0+1≤2 by decide),_,hJ.to (h':=h5),hpt,hz⟩,(show 2 - (0+1) < 2 - 0 by decide)⟩
          try simp(maxSteps:=999999) (disch:=omega) only[go_sem,ξ,ζ,aJ,Int.toNat_one,Nat.zero_mul,qBm,Nat.zero_add,List.set_cons_zero,List.set_cons_succ]
          all_goals rfl
    · try simp(maxSteps:=999999) (disch:=omega) only[go_sem,ξ,ζ,Int.toNat_one,Nat.zero_mul,qBm,Nat.zero_add,List.set_cons_zero,List.set_cons_succ]
      refine caN (by exact pc (eX.to (h':=h4)) (ed.to (h':=h4)) lX ld) ?_;rintro w5 h5 s5 zz5;obtain⟨f1,f2,f3,f4,f5,f6,f7,rfl,zz5c⟩:=zz5.sa
      try simp(maxSteps:=999999) (disch:=omega) only[go_sem,ξ,ζ,Int.toNat_one,Nat.zero_mul,qBm,Nat.zero_add,List.set_cons_zero,List.set_cons_succ]
      have lz:=lU lX0 ld0 (by decide)
      have hz:inn X y1 y2 o (1+1)=stp (J,lo,hi) (X.mul y2):=by rw[←hacc];rfl
      generalize X.mul y2=z at*
      cases z with
      | fin q=>
        dsimp only[Pt.side] at*
        try simp(maxSteps:=999999) (disch:=omega) only[go_sem,ξ,ζ,Int.toNat_one,Nat.zero_mul,qBm,Nat.zero_add,List.set_cons_zero,List.set_cons_succ]
        refine caN (by exact qU zz5c.num) ?_;rintro _ h6 _ zz6;obtain⟨_,_,_,_,_,_,_,_,_,_,_,_,_,_,_,_,rfl,zz6⟩:=zz6.sa
        try simp(maxSteps:=999999) (disch:=omega) only[go_sem,ξ,ζ,Int.toNat_one,Nat.zero_mul,qBm,Nat.zero_add,List.set_cons_zero,List.set_cons_succ]
        refine caN (by exact mS (hJ.to (h':=h6)) zz6 (NS.le30' hpt.2.1) (NS.le30' (le_pt lz))) ?_;rintro _ h7 _ zz7;obtain⟨_,_,_,_,_,_,_,_,_,_,_,_,_,_,_,_,rfl,zz7⟩:=zz7.sa
        try simp(maxSteps:=999999) (disch:=omega) only[go_sem,ξ,ζ,Int.toNat_one,Nat.zero_mul,qBm,Nat.zero_add,List.set_cons_zero,List.set_cons_succ]
        dsimp only[lpS];refine⟨(1+1,_,lo,hi),[0,1,2,3,4],?_,⟨inferInstance,(show 1+1≤2 by decide),_,zz7,ja (z:=.fin q) hpt lz,hz⟩,(show 2 - (1+1) < 2 - 1 by decide)⟩
        try simp(maxSteps:=999999) (disch:=omega) only[go_sem,ξ,ζ,aJ,Int.toNat_one,Nat.zero_mul,qBm,Nat.zero_add,List.set_cons_zero,List.set_cons_succ]
        all_goals rfl
      | inf up=>
        cases up with
        | true=>
          dsimp only[Pt.side] at*
          simp only[if_true,if_false,qAw,reduceIte] at*
          try simp(maxSteps:=999999) (disch:=omega) only[go_sem,ξ,ζ,Int.toNat_one,Nat.zero_mul,qBm,Nat.zero_add,List.set_cons_zero,List.set_cons_succ]
          dsimp only[lpS];refine⟨(1+1,_,lo,true),[0,1,2,3,4],?_,⟨inferInstance,(show 1+1≤2 by decide),_,hJ.to (h':=h5),hpt,hz⟩,(show 2 - (1+1) < 2 - 1 by decide)⟩
          try simp(maxSteps:=999999) (disch:=omega) only[go_sem,ξ,ζ,aJ,Int.toNat_one,Nat.zero_mul,qBm,Nat.zero_add,List.set_cons_zero,List.set_cons_succ]
          all_goals rfl
        | false=>
          dsimp only[Pt.side] at*
          simp only[if_true,if_false,qAw,reduceIte] at*
          try simp(maxSteps:=999999) (disch:=omega) only[go_sem,ξ,ζ,Int.toNat_one,Nat.zero_mul,qBm,Nat.zero_add,List.set_cons_zero,List.set_cons_succ]
          dsimp only[lpS];refine⟨(1+1,_,true,hi),[0,1,2,3,4],?_,⟨inferInstance,(show 1+1≤2 by decide),_,hJ.to (h':=h5),hpt,hz⟩,(show 2 - (1+1) < 2 - 1 by decide)⟩
          try simp(maxSteps:=999999) (disch:=omega) only[go_sem,ξ,ζ,aJ,Int.toNat_one,Nat.zero_mul,qBm,Nat.zero_add,List.set_cons_zero,List.set_cons_succ]
          all_goals rfl
theorem prod_pts {a b c d:Option Rat} (ls:(NS.i a b).le 2048) (lt:(NS.i c d).le 2048):NS.pts 4096 (outer (lowP a) (highP b) (lowP c) (highP d) 2):=by
 rw[NS.le_i] at ls lt
 have la:=qR ls.1
 have lb:=og ls.2
 have lc:=qR lt.1
 have ld:=og lt.2
 exact ja (ja (ja (ja ⟨trivial,rfl,.inl rfl⟩ (lU la lc (by decide))) (lU la ld (by decide))) (lU lb lc (by decide))) (lU lb ld (by decide))
theorem fin3_pts {k:Nat} {o:NS×Bool×Bool} (h:NS.pts k o) (hk:1≤k):(fin3 o).ok∧(fin3 o).le k:=by
 obtain⟨s,l,u⟩:=o
 obtain⟨h1,h2,h3⟩:=h
 have h0:sz 0≤k:=χ (show sz 0≤1 by decide) hk
 rcases h3 with e |⟨a,b,e⟩
 ·cases(e:s=.e)
  refine⟨?_,?_⟩
  ·cases l<;>cases u<;>simp[fin3,NS.ok,ordO]
  ·show NS.le k (.i _ _)
   rw[NS.le_i]
   cases l<;>cases u<;>exact⟨fun _ e=>by cases e;try exact h0,fun _ e=>by cases e;try exact h0⟩
 ·cases(e:s=.i _ _)
  have h2':=(NS.le_i.1 h2)
  refine⟨?_,?_⟩
  ·cases l<;>cases u<;>first |exact h1 |rfl
  ·show NS.le k (.i _ _)
   rw[NS.le_i]
   cases l<;>cases u<;>exact⟨fun _ e=>by cases e;try exact h2'.1 _ rfl,fun _ e=>by cases e;try exact h2'.2 _ rfl⟩
theorem fK {x y:NS} (hx:x.le 2048) (hy:y.le 2048):(x.prod y).ok∧(x.prod y).le 4096:=by
 cases x with
 |e=>exact⟨trivial,rfl⟩
 | i a b=>cases y with
  |e=>exact⟨trivial,rfl⟩
  |i c d=>exact fin3_pts (prod_pts hx hy) (by decide)
theorem Prod1 {h0 h:PH} [Le h0 h] {s t:Value} {x y:NS} (hs:Sn h0 s x) (ht:Sn h0 t y) (gx:x.void=false) (gy:y.void=false) (lx:x.le 2048) (ly:y.le 2048):Spec mach 126 #[s,t] h (fun v h'=>Sn h' v (x.prod y)) NP:=by
 cases x with
 |e=>cases gx
 | i a b=>cases y with
  |e=>cases gy
  |i c d=>exact Ao hs ht lx ly
theorem gH {h0 h:PH} [Le h0 h] {v w:Value} {x y:RI} {p:Int} (hv:Iv h0 v x) (hw:Iv h0 w y):Spec mach 80 #[v,w,.int .i64 p] h (fun r h'=>Ir h' r (x.fin2 y (rnd p x.set y.set (.ok (x.set.prod y.set))))) NP:=by
 have hv0:=hv
 have hw0:=hw
 obtain⟨a1,m1,c1,a2,m2,c2,a3,m3,c3,a4,m4,c4,rfl,_,_⟩:=hv.sa
 obtain⟨a1',m1',c1',a2',m2',c2',a3',m3',c3',a4',m4',c4',rfl,_,_⟩:=hw.sa
 refine Spec.go [] Tryz.func80 rfl rfl (by kernel_rfl) fun C _=>?_
 try simp(maxSteps:=999999) (disch:=omega) only[go_sem,ξ,ζ,Int.toNat_one,Nat.zero_mul,qBm,Nat.zero_add,List.set_cons_zero,List.set_cons_succ]
 refine caN (by exact mC hv0 hw0 (fun g g' k k' h' _ s t hs ht=>Does.mk (Prod1 hs.sn ht.sn k k' (RI.le g) (RI.le g'))) (fun g g' z e=>by cases e;exact(fK (RI.le g) (RI.le g')).2.up (by decide))) ?_;rintro _ h3 _ hr3;obtain⟨_,_,_,_,_,_,_,_,_,_,_,_,_,_,_,_,_,rfl,hr3⟩:=hr3.sa
 try simp(maxSteps:=999999) (disch:=omega) only[go_sem,ξ,ζ,Int.toNat_one,Nat.zero_mul,qBm,Nat.zero_add,List.set_cons_zero,List.set_cons_succ]
 exact hr3
def invO:Option Rat→Rat
 |none=>((0:Int):Rat)
 |some q=>q⁻¹
def NS.inv:NS→NS
 |.e=>.e
 |.i a b=>.i (some (invO b)) (some (invO a))
theorem Ad {a b:Option Rat} (h:(NS.i a b).zero=false) (ho:(NS.i a b).ok):(∀q,a=some q→q≠0)∧∀q,b=some q→q≠0:=by
 have h1:¬((NS.i a b).slo≤0∧0≤(NS.i a b).shi):=by
  intro k
  simp[NS.zero,NS.void,k.1,k.2] at h
 refine⟨fun q e k=>h1 ?_,fun q e k=>h1 ?_⟩
 ·subst e k
  refine⟨by show sgn3 0≤0;decide,?_⟩
  cases b with
  |none=>show(0:Int)≤1;decide
  | some b=>
   have:¬b < 0:=by simpa[NS.ok,ordO] using ho
   show 0≤sgn3 b
   unfold sgn3;grind
 ·subst e k
  refine⟨?_,by show 0≤sgn3 0;decide⟩
  cases a with
  |none=>show(-1:Int)≤0;decide
  | some a=>
   have:¬(0:Rat) < a:=by simpa[NS.ok,ordO] using ho
   show sgn3 a≤0
   unfold sgn3;grind
theorem rp {h0 h:PH} [Le h0 h] {v:Value} {a b:Option Rat} (hv:Sn h0 v (.i a b)) (ha:∀q,a=some q→q≠0) (hb:∀q,b=some q→q≠0):Spec mach 129 #[v] h (fun v h'=>Sn h' v (NS.i a b).inv) NP:=by
 obtain⟨b1,a1,m1,c1,a2,m2,c2,b2,a3,m3,c3,a4,m4,c4,rfl,e1,e2⟩:=hv.ie
 cases a<;>cases b<;>
 ·dsimp only[Option.isNone]
  refine Spec.go [] Tryz.func129 rfl rfl (by kernel_rfl) fun C _=>?_
  try simp(maxSteps:=999999) (disch:=omega) only[go_sem,ξ,ζ]
  refine caN (by exact cB (n:=0) (by decide) (by decide)) ?_;rintro _ h1 _ f1;obtain⟨_,_,_,_,_,_,_,rfl,f1⟩:=f1.sa
  try simp(maxSteps:=999999) (disch:=omega) only[go_sem,ξ,ζ]
  refine caN (by exact cB (n:=0) (by decide) (by decide)) ?_;rintro _ h2 _ f2;obtain⟨_,_,_,_,_,_,_,rfl,f2⟩:=f2.sa
  try simp(maxSteps:=999999) (disch:=omega) only[go_sem,ξ,ζ]
  try (refine caN (by exact mu (e2.num.to (h':=h2)) (hb _ rfl)) ?_;rintro _ h3 _ f3;obtain⟨_,_,_,_,_,_,_,rfl,f3⟩:=f3.sa;(try simp(maxSteps:=999999) (disch:=omega) only[go_sem,ξ,ζ]))
  try (refine caN (by exact mu e1.num (ha _ rfl)) ?_;rintro _ h4 _ f4;obtain⟨_,_,_,_,_,_,_,rfl,f4⟩:=f4.sa;(try simp(maxSteps:=999999) (disch:=omega) only[go_sem,ξ,ζ]))
  try simp(maxSteps:=999999) (disch:=omega) only[go_sem,ξ,ζ]
  exact⟨_,_,_,_,_,_,rfl,by first |exact En.of f3.to |exact En.of f1.to,by first |exact En.of f4.to |exact En.of f2.to⟩
theorem jw {x:NS} {k:Nat} (h:x.le k) (hk:1≤k):x.inv.le k:=by
 cases x with
 |e=>exact h
 | i a b=>
  rw[NS.le_i] at h
  show NS.le k (.i (some (invO b)) (some (invO a)))
  rw[NS.le_i]
  have h0:sz ((0:Int):Rat)≤k:=χ (by decide) hk
  refine⟨fun q e=>?_,fun q e=>?_⟩
  ·cases e
   cases b with
   |none=>exact h0
   |some b=>exact χ (iQ b) (h.2 _ rfl)
  ·cases e
   cases a with
   |none=>exact h0
   |some a=>exact χ (iQ a) (h.1 _ rfl)
def divO (x y:NS):Out:=bif y.zero then .error 10 else .ok (x.prod y.inv)
theorem Div1 {h0 h:PH} [Le h0 h] {s t:Value} {x y:NS} (hs:Sn h0 s x) (ht:Sn h0 t y) (gx:x.void=false) (gy:y.void=false) (lx:x.le 2048) (ly:y.le 2048) (oy:y.ok):Does 127 #[s,t] h (divO x y):=by
 unfold divO
 have kZ:=fun {h} [Le h0 h]=>Ei (h:=h) ht
 have kI:y.zero=false→∀{h:PH} [Le h0 h],Spec mach 129 #[t] h (fun v h'=>Sn h' v y.inv) NP:=by
  intro hz h _
  cases y with
  |e=>cases gy
  | i c d=>
   obtain⟨n1,n2⟩:=Ad hz oy
   exact rp ht n1 n2
 have hs0:=hs
 have ht0:=ht
 obtain⟨_,_,_,_,_,_,_,_,_,_,_,_,_,_,_,_,rfl,_⟩:=hs.sa
 obtain⟨_,_,_,_,_,_,_,_,_,_,_,_,_,_,_,_,rfl,_⟩:=ht.sa
 cases hz:y.zero with
 | true=>
  rw[hz] at kZ
  show Spec _ _ _ _ NR (fail 10)
  refine Spec.go [] Tryz.func127 rfl rfl (by kernel_rfl) fun C _=>?_
  try simp(maxSteps:=999999) (disch:=omega) only[go_sem,ξ,ζ]
  refine caN (by exact kZ) ?_;rintro v1 h1 s1 rfl
  try simp(maxSteps:=999999) (disch:=omega) only[go_sem,ξ,ζ]
  exact caF (by exact jm (by decide)) (fun _ _ h=>h)
 | false=>
  rw[hz] at kZ
  show Spec _ _ _ _ (fun v h'=>Sn h' v (x.prod y.inv)) NP
  have kI:=fun {h} [Le h0 h]=>kI hz (h:=h)
  have gi:y.inv.void=false:=by cases y with
   |e=>cases gy
   |i c d=>rfl
  refine Spec.go [] Tryz.func127 rfl rfl (by kernel_rfl) fun C _=>?_
  try simp(maxSteps:=999999) (disch:=omega) only[go_sem,ξ,ζ]
  refine caN (by exact kZ) ?_;rintro v1 h1 s1 rfl
  try simp(maxSteps:=999999) (disch:=omega) only[go_sem,ξ,ζ]
  refine caN (by exact kI) ?_;rintro _ h2 _ q2;obtain⟨_,_,_,_,_,_,_,_,_,_,_,_,_,_,_,_,rfl,q2⟩:=q2.sa
  try simp(maxSteps:=999999) (disch:=omega) only[go_sem,ξ,ζ]
  refine caN (by exact Prod1 (hs0.to (h':=h2)) q2 gx gi lx (jw ly (by decide))) ?_;rintro _ h3 _ q3;obtain⟨_,_,_,_,_,_,_,_,_,_,_,_,_,_,_,_,rfl,q3⟩:=q3.sa
  try simp(maxSteps:=999999) (disch:=omega) only[go_sem,ξ,ζ]
  exact q3
theorem mH {h0 h:PH} [Le h0 h] {v w:Value} {x y:RI} {p:Int} (hv:Iv h0 v x) (hw:Iv h0 w y):Spec mach 81 #[v,w,.int .i64 p] h (fun r h'=>Ir h' r (x.fin2 y (rnd p x.set y.set (divO x.set y.set)))) NP:=by
 have hv0:=hv
 have hw0:=hw
 obtain⟨a1,m1,c1,a2,m2,c2,a3,m3,c3,a4,m4,c4,rfl,_,_⟩:=hv.sa
 obtain⟨a1',m1',c1',a2',m2',c2',a3',m3',c3',a4',m4',c4',rfl,_,_⟩:=hw.sa
 have kL:x.big=false→y.big=false→∀z,divO x.set y.set=.ok z→z.le (2^30):=by
  intro g g' z e
  unfold divO at e
  cases hz:y.set.zero with
  |true=>rw[hz] at e;cases e
  |false=>rw[hz] at e;cases e;exact(fK (RI.le g) (jw (RI.le g') (by decide))).2.up (by decide)
 refine Spec.go [] Tryz.func81 rfl rfl (by kernel_rfl) fun C _=>?_
 try simp(maxSteps:=999999) (disch:=omega) only[go_sem,ξ,ζ]
 refine caN (by exact mC hv0 hw0 (fun g g' k k' h' _ s t hs ht=>Div1 hs.sn ht.sn k k' (RI.le g) (RI.le g') (RI.set_ok y)) kL) ?_;rintro _ h3 _ hr3;obtain⟨_,_,_,_,_,_,_,_,_,_,_,_,_,_,_,_,_,rfl,hr3⟩:=hr3.sa
 try simp(maxSteps:=999999) (disch:=omega) only[go_sem,ξ,ζ]
 exact hr3
end Go.Q
namespace Go.Q
open Go.Proofs Go.RowKit
set_option maxRecDepth 100000
set_option maxHeartbeats 16000000
def mulE (p:Int) (x y:RI):Out:=x.fin2 y (rnd p x.set y.set (.ok (x.set.prod y.set)))
def divE (p:Int) (x y:RI):Out:=x.fin2 y (rnd p x.set y.set (divO x.set y.set))
def subE (p:Int) (x y:RI):Out:=x.fin2 y (rnd p x.set y.set (.ok (x.set.sum y.set.minus)))
def elE (p:Int) (kk ki kj ij:RI):Out:=match mulE p ki kj with
 |.error e=>.error e
 | .ok a=>match divE p a.ri kk with
  |.error e=>.error e
  |.ok b=>subE p ij b.ri
def nwE (o:Out) (x:RI):RI:=match o with
 |.ok z=>z.ri
 |.error _=>x
def okE:Out→Bool
 |.ok _=>true
 |.error _=>false
def stM (p:Int) (k:Nat) (M:Nat→Nat→RI) (i j a b:Nat):RI:=if k < a∧a≤b∧(a < i∨a=i∧b < j) then nwE (elE p (M k k) (M k a) (M k b) (M a b)) (M a b) else M a b
def stB (p:Int) (k n:Nat) (M:Nat→Nat→RI) (i j:Nat):Prop:=∀a b,k < a→a≤b→b < n→(a < i∨a=i∧b < j)→okE (elE p (M k k) (M k a) (M k b) (M a b))=true
def elB (p:Int) (k n:Nat) (M:Nat→Nat→RI):Prop:=∀a b,k < a→a≤b→b < n→okE (elE p (M k k) (M k a) (M k b) (M a b))=true
def elM (p:Int) (k:Nat) (M:Nat→Nat→RI) (a b:Nat):RI:=if k < a∧a≤b then nwE (elE p (M k k) (M k a) (M k b) (M a b)) (M a b) else M a b
theorem stM_row {p:Int} {k:Nat} {M:Nat→Nat→RI} {i j b:Nat}:stM p k M i j k b=M k b:=by unfold stM;rw[if_neg (by omega)]
theorem stM_at {p:Int} {k:Nat} {M:Nat→Nat→RI} {i j:Nat}:stM p k M i j i j=M i j:=by unfold stM;rw[if_neg (by omega)]
theorem stM_next {p:Int} {k:Nat} {M:Nat→Nat→RI} {i j:Nat} (h1:k < i) (h2:i≤j) {z:NS} (h:elE p (M k k) (M k i) (M k j) (M i j)=.ok z):
  (fun a b=>if a=i∧b=j then z.ri else stM p k M i j a b)=stM p k M i (j+1):=by
 funext a b
 unfold stM
 by_cases e:a=i∧b=j
 ·obtain⟨rfl,rfl⟩:=e
  rw[if_pos ⟨rfl,rfl⟩,if_pos ⟨h1,h2,.inr ⟨rfl,by omega⟩⟩,h];rfl
 ·rw[if_neg e]
  by_cases g:k < a∧a≤b∧(a < i∨a=i∧b < j)
  ·rw[if_pos g,if_pos ⟨g.1,g.2.1,by omega⟩]
  ·rw[if_neg g,if_neg (fun q=>g ⟨q.1,q.2.1,by omega⟩)]
theorem stM_line {p:Int} {k n:Nat} {M:Nat→Nat→RI} {i:Nat} {a b:Nat} (hb:b < n):stM p k M i n a b=stM p k M (i+1) (i+1) a b:=by
 unfold stM
 by_cases g:k < a∧a≤b∧(a < i∨a=i∧b < n)
 ·rw[if_pos g,if_pos ⟨g.1,g.2.1,by omega⟩]
 ·rw[if_neg g,if_neg (fun q=>g ⟨q.1,q.2.1,by omega⟩)]
theorem fin2_le {x y:RI} {o:Out} {z:NS} (h:x.fin2 y o=.ok z):z.le 2048:=by
 unfold RI.fin2 at h
 cases e:(x.big || y.big) with
 |true=>rw[e] at h;cases h
 | false=>
  rw[e,cond_false] at h
  cases o with
  |error e=>cases h
  | ok w=>
   unfold Out.fin at h
   dsimp only at h
   cases e2:decide (w.le 2048) with
   |false=>rw[e2] at h;cases h
   |true=>rw[e2] at h;cases h;exact of_decide_eq_true e2
structure Kx (n:Nat) (g:Nat→Nat) (W W':World):Prop where
 os:W'.os=W.os
 tape:W'.tape=W.tape
 output:W'.output=W.output
 size:W.heap.size≤W'.heap.size
 block:∀b,b < W.heap.size→(∀i,i < n→b≠g i)→W'.heap[b]?=W.heap[b]?
theorem Kx.refl (n:Nat) (g:Nat→Nat) (W:World):Kx n g W W:=⟨rfl,rfl,rfl,η _,fun _ _ _=>rfl⟩
theorem Kx.trans {n:Nat} {g:Nat→Nat} {A B C:World} (h:Kx n g A B) (k:Kx n g B C):Kx n g A C:=
 ⟨k.os.trans h.os,k.tape.trans h.tape,k.output.trans h.output,χ h.size k.size,fun b hb hn=>(k.block b (Nat.lt_of_lt_of_le hb h.size) hn).trans (h.block b hb hn)⟩
theorem Kx.of_below {n:Nat} {g:Nat→Nat} {A B:World} (h:Below A.heap.size A B):Kx n g A B:=⟨h.os,h.tape,h.output,h.size,fun b hb _=>h.block b hb⟩
end Go.Q
namespace Go.Q
open Go.Proofs
set_option maxRecDepth 100000
set_option maxHeartbeats 4000000
def zRI:Value:=.agg #[.bool false,.slice none 0 0,.slice none 0 0,.bool false,.slice none 0 0,.slice none 0 0,.bool false,.bool false,.bool false]
theorem gm {h0 h:PH} [Le h0 h] {v w:Value} {x y:RI} {p:Int} (hv:Iv h0 v x) (hw:Iv h0 w y) (g:(x.big || y.big)=true):Spec mach 134 #[v,w,.int .i64 p] h (fun r _=>r=.tuple #[zRI,zRI,.int .i64 1]) NP:=by
 have kl:=fun {h} [Le h0 h]=>eZ (h:=h) hv
 have kl':=fun {h} [Le h0 h]=>eZ (h:=h) hw
 obtain⟨a1,m1,c1,a2,m2,c2,a3,m3,c3,a4,m4,c4,rfl,_,_⟩:=hv.sa
 obtain⟨a1',m1',c1',a2',m2',c2',a3',m3',c3',a4',m4',c4',rfl,_,_⟩:=hw.sa
 cases g1:x.big with
 | true=>
  rw[g1] at kl
  refine Spec.enter (args:=[_,_,_]) (n:=29) Tryz.func134 rfl (by kernel_rfl) rfl (by simp) [.cell 6 75,.cell 7 75,.tmp 8] rfl (fun C _=>?_)
  repeat (first |(refine wo rfl (fun k hk=>?_);simp(disch:=omega) only[go_sem,ξ,ζ];apply hk;clear hk k) |refine wkt rfl ?_ |refine wk0 ?_ |refine rg rfl rfl (fun K hK=>?_) |refine rd [.o 0,.o 2,.o 1,.o 3,.o 4,.o 5,.o 6] rfl (by decide+kernel) rfl (fun K hK=>?_) |((first |refine ae ?_ |refine ac ?_);simp(disch:=decide) only[qs,qb,if_true,if_false,reduceIte]) |refine ah rfl (fun K hK=>?_) |refine ct rfl ?_ |((try simp(disch:=omega) only[go_sem,ξ,ζ]);(first |apply hK |(clear hK;apply hK) |(clear hK;clear hK;apply hK));clear hK;(try clear K);(try dsimp only[ag,qs,qb])))
  refine cN rfl rfl rfl rfl (by exact kl) ?_;rintro v1 h1 s1 rfl
  repeat (first |(refine wo rfl (fun k hk=>?_);simp(disch:=omega) only[go_sem,ξ,ζ];apply hk;clear hk k) |refine wkt rfl ?_ |refine wk0 ?_ |refine rg rfl rfl (fun K hK=>?_) |refine rd [.o 0,.o 2,.o 1,.o 3,.o 4,.o 5,.o 6] rfl (by decide+kernel) rfl (fun K hK=>?_) |((first |refine ae ?_ |refine ac ?_);simp(disch:=decide) only[qs,qb,if_true,if_false,reduceIte]) |refine ah rfl (fun K hK=>?_) |refine ct rfl ?_ |((try simp(disch:=omega) only[go_sem,ξ,ζ]);(first |apply hK |(clear hK;apply hK) |(clear hK;clear hK;apply hK));clear hK;(try clear K);(try dsimp only[ag,qs,qb])))
  refine ai ?_;simp(disch:=omega) only[go_sem,ξ,ζ]
  all_goals rfl
 | false=>
  have g2:y.big=true:=by simpa[g1] using g
  rw[g1] at kl
  rw[g2] at kl'
  refine Spec.enter (args:=[_,_,_]) (n:=29) Tryz.func134 rfl (by kernel_rfl) rfl (by simp) [.cell 6 75,.cell 7 75,.tmp 8] rfl (fun C _=>?_)
  repeat (first |(refine wo rfl (fun k hk=>?_);simp(disch:=omega) only[go_sem,ξ,ζ];apply hk;clear hk k) |refine wkt rfl ?_ |refine wk0 ?_ |refine rg rfl rfl (fun K hK=>?_) |refine rd [.o 0,.o 2,.o 1,.o 3,.o 4,.o 5,.o 6] rfl (by decide+kernel) rfl (fun K hK=>?_) |((first |refine ae ?_ |refine ac ?_);simp(disch:=decide) only[qs,qb,if_true,if_false,reduceIte]) |refine ah rfl (fun K hK=>?_) |refine ct rfl ?_ |((try simp(disch:=omega) only[go_sem,ξ,ζ]);(first |apply hK |(clear hK;apply hK) |(clear hK;clear hK;apply hK));clear hK;(try clear K);(try dsimp only[ag,qs,qb])))
  refine cN rfl rfl rfl rfl (by exact kl) ?_;rintro v1 h1 s1 rfl;(repeat (first |(refine wo rfl (fun k hk=>?_);simp(disch:=omega) only[go_sem,ξ,ζ];apply hk;clear hk k) |refine wkt rfl ?_));(try refine wk0 ?_)
  refine cN rfl rfl rfl rfl (by exact kl') ?_;rintro v2 h2 s2 rfl
  repeat (first |(refine wo rfl (fun k hk=>?_);simp(disch:=omega) only[go_sem,ξ,ζ];apply hk;clear hk k) |refine wkt rfl ?_ |refine wk0 ?_ |refine rg rfl rfl (fun K hK=>?_) |refine rd [.o 0,.o 2,.o 1,.o 3,.o 4,.o 5,.o 6] rfl (by decide+kernel) rfl (fun K hK=>?_) |((first |refine ae ?_ |refine ac ?_);simp(disch:=decide) only[qs,qb,if_true,if_false,reduceIte]) |refine ah rfl (fun K hK=>?_) |refine ct rfl ?_ |((try simp(disch:=omega) only[go_sem,ξ,ζ]);(first |apply hK |(clear hK;apply hK) |(clear hK;clear hK;apply hK));clear hK;(try clear K);(try dsimp only[ag,qs,qb])))
  refine ai ?_;simp(disch:=omega) only[go_sem,ξ,ζ]
  all_goals rfl
theorem pb {h0 h:PH} [Le h0 h] {v w:Value} {x y:RI} {p:Int} (hv:Iv h0 v x) (hw:Iv h0 w y) (g1:x.big=false) (g2:y.big=false) (gp:bad p=true):Spec mach 134 #[v,w,.int .i64 p] h (fun r _=>r=.tuple #[zRI,zRI,.int .i64 2]) NP:=by
 have kl:=fun {h} [Le h0 h]=>eZ (h:=h) hv
 have kl':=fun {h} [Le h0 h]=>eZ (h:=h) hw
 rw[g1] at kl
 rw[g2] at kl'
 obtain⟨a1,m1,c1,a2,m2,c2,a3,m3,c3,a4,m4,c4,rfl,_,_⟩:=hv.sa
 obtain⟨a1',m1',c1',a2',m2',c2',a3',m3',c3',a4',m4',c4',rfl,_,_⟩:=hw.sa
 by_cases h2:p < 0
 ·refine Spec.enter (args:=[_,_,_]) (n:=29) Tryz.func134 rfl (by kernel_rfl) rfl (by simp) [.cell 6 75,.cell 7 75,.tmp 8] rfl (fun C _=>?_)
  repeat (first |(refine wo rfl (fun k hk=>?_);simp(disch:=omega) only[go_sem,ξ,ζ];apply hk;clear hk k) |refine wkt rfl ?_ |refine wk0 ?_ |refine rg rfl rfl (fun K hK=>?_) |refine rd [.o 0,.o 2,.o 1,.o 3,.o 4,.o 5,.o 6] rfl (by decide+kernel) rfl (fun K hK=>?_) |((first |refine ae ?_ |refine ac ?_);simp(disch:=decide) only[qs,qb,if_true,if_false,reduceIte]) |refine ah rfl (fun K hK=>?_) |refine ct rfl ?_ |((try simp(disch:=omega) only[go_sem,ξ,ζ]);(first |apply hK |(clear hK;apply hK) |(clear hK;clear hK;apply hK));clear hK;(try clear K);(try dsimp only[ag,qs,qb])))
  refine cN rfl rfl rfl rfl (by exact kl) ?_;rintro v1 h1 s1 rfl;(repeat (first |(refine wo rfl (fun k hk=>?_);simp(disch:=omega) only[go_sem,ξ,ζ];apply hk;clear hk k) |refine wkt rfl ?_));(try refine wk0 ?_)
  refine cN rfl rfl rfl rfl (by exact kl') ?_;rintro v2 h2' s2 rfl
  repeat (first |(refine wo rfl (fun k hk=>?_);simp(disch:=omega) only[go_sem,ξ,ζ];apply hk;clear hk k) |refine wkt rfl ?_ |refine wk0 ?_ |refine rg rfl rfl (fun K hK=>?_) |refine rd [.o 0,.o 2,.o 1,.o 3,.o 4,.o 5,.o 6] rfl (by decide+kernel) rfl (fun K hK=>?_) |((first |refine ae ?_ |refine ac ?_);simp(disch:=decide) only[qs,qb,if_true,if_false,reduceIte]) |refine ah rfl (fun K hK=>?_) |refine ct rfl ?_ |((try simp(disch:=omega) only[go_sem,ξ,ζ]);(first |apply hK |(clear hK;apply hK) |(clear hK;clear hK;apply hK));clear hK;(try clear K);(try dsimp only[ag,qs,qb])))
  refine ai ?_;simp(disch:=omega) only[go_sem,ξ,ζ]
  all_goals rfl
 ·have h3:128 < p:=(i7 gp).resolve_left h2
  refine Spec.enter (args:=[_,_,_]) (n:=29) Tryz.func134 rfl (by kernel_rfl) rfl (by simp) [.cell 6 75,.cell 7 75,.tmp 8] rfl (fun C _=>?_)
  repeat (first |(refine wo rfl (fun k hk=>?_);simp(disch:=omega) only[go_sem,ξ,ζ];apply hk;clear hk k) |refine wkt rfl ?_ |refine wk0 ?_ |refine rg rfl rfl (fun K hK=>?_) |refine rd [.o 0,.o 2,.o 1,.o 3,.o 4,.o 5,.o 6] rfl (by decide+kernel) rfl (fun K hK=>?_) |((first |refine ae ?_ |refine ac ?_);simp(disch:=decide) only[qs,qb,if_true,if_false,reduceIte]) |refine ah rfl (fun K hK=>?_) |refine ct rfl ?_ |((try simp(disch:=omega) only[go_sem,ξ,ζ]);(first |apply hK |(clear hK;apply hK) |(clear hK;clear hK;apply hK));clear hK;(try clear K);(try dsimp only[ag,qs,qb])))
  refine cN rfl rfl rfl rfl (by exact kl) ?_;rintro v1 h1 s1 rfl;(repeat (first |(refine wo rfl (fun k hk=>?_);simp(disch:=omega) only[go_sem,ξ,ζ];apply hk;clear hk k) |refine wkt rfl ?_));(try refine wk0 ?_)
  refine cN rfl rfl rfl rfl (by exact kl') ?_;rintro v2 h2' s2 rfl
  repeat (first |(refine wo rfl (fun k hk=>?_);simp(disch:=omega) only[go_sem,ξ,ζ];apply hk;clear hk k) |refine wkt rfl ?_ |refine wk0 ?_ |refine rg rfl rfl (fun K hK=>?_) |refine rd [.o 0,.o 2,.o 1,.o 3,.o 4,.o 5,.o 6] rfl (by decide+kernel) rfl (fun K hK=>?_) |((first |refine ae ?_ |refine ac ?_);simp(disch:=decide) only[qs,qb,if_true,if_false,reduceIte]) |refine ah rfl (fun K hK=>?_) |refine ct rfl ?_ |((try simp(disch:=omega) only[go_sem,ξ,ζ]);(first |apply hK |(clear hK;apply hK) |(clear hK;clear hK;apply hK));clear hK;(try clear K);(try dsimp only[ag,qs,qb])))
  refine ai ?_;simp(disch:=omega) only[go_sem,ξ,ζ]
  all_goals rfl
theorem iJ {h0 h:PH} [Le h0 h] {v w:Value} {x y:RI} {p:Int} (hv:Iv h0 v x) (hw:Iv h0 w y) (g1:x.big=false) (g2:y.big=false) (gp:bad p=false):Spec mach 134 #[v,w,.int .i64 p] h (fun r h'=>∃s t,r=.tuple #[s,t,.int .i64 0]∧Rr h' s x.set∧Rr h' t y.set) NP:=by
 have hv0:=hv
 have hw0:=hw
 have kl:=fun {h} [Le h0 h]=>eZ (h:=h) hv
 have kl':=fun {h} [Le h0 h]=>eZ (h:=h) hw
 rw[g1] at kl
 rw[g2] at kl'
 obtain⟨a1,m1,c1,a2,m2,c2,a3,m3,c3,a4,m4,c4,rfl,_,_⟩:=hv.sa
 obtain⟨a1',m1',c1',a2',m2',c2',a3',m3',c3',a4',m4',c4',rfl,_,_⟩:=hw.sa
 have h2:=jt gp
 have h3:¬p < 0:=by omega
 have h4:¬128 < p:=by omega
 refine Spec.enter (args:=[_,_,_]) (n:=29) Tryz.func134 rfl (by kernel_rfl) rfl (by simp) [.cell 6 75,.cell 7 75,.tmp 8] rfl (fun C _=>?_)
 repeat (first |(refine wo rfl (fun k hk=>?_);simp(disch:=omega) only[go_sem,ξ,ζ];apply hk;clear hk k) |refine wkt rfl ?_ |refine wk0 ?_ |refine rg rfl rfl (fun K hK=>?_) |refine rd [.o 0,.o 2,.o 1,.o 3,.o 4,.o 5,.o 6] rfl (by decide+kernel) rfl (fun K hK=>?_) |((first |refine ae ?_ |refine ac ?_);simp(disch:=decide) only[qs,qb,if_true,if_false,reduceIte]) |refine ah rfl (fun K hK=>?_) |refine ct rfl ?_ |((try simp(disch:=omega) only[go_sem,ξ,ζ]);(first |apply hK |(clear hK;apply hK) |(clear hK;clear hK;apply hK));clear hK;(try clear K);(try dsimp only[ag,qs,qb])))
 refine cN rfl rfl rfl rfl (by exact kl) ?_;rintro v1 h1 s1 rfl;(repeat (first |(refine wo rfl (fun k hk=>?_);simp(disch:=omega) only[go_sem,ξ,ζ];apply hk;clear hk k) |refine wkt rfl ?_));(try refine wk0 ?_)
 refine cN rfl rfl rfl rfl (by exact kl') ?_;rintro v2 h2' s2 rfl
 repeat (first |(refine wo rfl (fun k hk=>?_);simp(disch:=omega) only[go_sem,ξ,ζ];apply hk;clear hk k) |refine wkt rfl ?_ |refine wk0 ?_ |refine rg rfl rfl (fun K hK=>?_) |refine rd [.o 0,.o 2,.o 1,.o 3,.o 4,.o 5,.o 6] rfl (by decide+kernel) rfl (fun K hK=>?_) |((first |refine ae ?_ |refine ac ?_);simp(disch:=decide) only[qs,qb,if_true,if_false,reduceIte]) |refine ah rfl (fun K hK=>?_) |refine ct rfl ?_ |((try simp(disch:=omega) only[go_sem,ξ,ζ]);(first |apply hK |(clear hK;apply hK) |(clear hK;clear hK;apply hK));clear hK;(try clear K);(try dsimp only[ag,qs,qb])))
 refine cN rfl rfl rfl rfl (by exact RefOf hv0 g1) ?_;rintro v3 h3' st_h3' f3;obtain⟨v3_0,v3_1,v3_2,v3_3,v3_4,v3_5,v3_6,v3_7,v3_8,v3_9,v3_10,v3_11,v3_12,v3_13,rfl,f3⟩:=f3.sa;(repeat (first |(refine wo rfl (fun k hk=>?_);simp(disch:=omega) only[go_sem,ξ,ζ];apply hk;clear hk k) |refine wkt rfl ?_));(try refine wk0 ?_)
 refine cN rfl rfl rfl rfl (by exact RefOf hw0 g2) ?_;rintro v4 h4' st_h4' f4;obtain⟨v4_0,v4_1,v4_2,v4_3,v4_4,v4_5,v4_6,v4_7,v4_8,v4_9,v4_10,v4_11,v4_12,v4_13,rfl,f4⟩:=f4.sa
 repeat (first |(refine wo rfl (fun k hk=>?_);simp(disch:=omega) only[go_sem,ξ,ζ];apply hk;clear hk k) |refine wkt rfl ?_ |refine wk0 ?_ |refine rg rfl rfl (fun K hK=>?_) |refine rd [.o 0,.o 2,.o 1,.o 3,.o 4,.o 5,.o 6] rfl (by decide+kernel) rfl (fun K hK=>?_) |((first |refine ae ?_ |refine ac ?_);simp(disch:=decide) only[qs,qb,if_true,if_false,reduceIte]) |refine ah rfl (fun K hK=>?_) |refine ct rfl ?_ |((try simp(disch:=omega) only[go_sem,ξ,ζ]);(first |apply hK |(clear hK;apply hK) |(clear hK;clear hK;apply hK));clear hK;(try clear K);(try dsimp only[ag,qs,qb])))
 refine ai ?_;simp(disch:=omega) only[go_sem,ξ,ζ]
 exact⟨_,_,rfl,f3.to,f4⟩
theorem jq {h0 h:PH} [Le h0 h] {v:Value} {x:NS} (hv:Rr h0 v x):Spec mach 141 #[v] h (fun r h'=>Rr h' r x.minus) NP:=by
 obtain⟨_,_,_,_,_,_,_,_,_,_,_,_,_,_,rfl,t1,t2⟩:=hv.sa
 cases x with
 | e=>
  dsimp only[NS.void]
  refine Spec.enter (args:=[_]) (n:=17) Tryz.func141 rfl (by kernel_rfl) rfl (by simp) [.cell 2 75] rfl (fun C _=>?_)
  repeat (first |(refine wo rfl (fun k hk=>?_);simp(disch:=omega) only[go_sem,ξ,ζ];apply hk;clear hk k) |refine wkt rfl ?_ |refine wk0 ?_ |refine rg rfl rfl (fun K hK=>?_) |refine rd [.o 0,.o 1,.o 3,.o 4,.o 6,.o 7,.o 8,.o 9,.o 2,.o 5,.o 10,.o 11] rfl (by decide+kernel) rfl (fun K hK=>?_) |((first |refine ae ?_ |refine ac ?_);simp(disch:=decide) only[qs,qb,if_true,if_false,reduceIte]) |refine ah rfl (fun K hK=>?_) |refine ct rfl ?_ |((try simp(disch:=omega) only[go_sem,ξ,ζ]);(first |apply hK |(clear hK;apply hK) |(clear hK;clear hK;apply hK));clear hK;(try clear K);(try dsimp only[ag,qs,qb])))
  refine ai ?_;simp(disch:=omega) only[go_sem,ξ,ζ]
  exact⟨_,_,_,_,_,_,rfl,t1.to,t2.to⟩
 | i a b=>
  dsimp only[NS.void,NS.loN,NS.hiN,NS.lo0,NS.hi0] at*
  refine Spec.enter (args:=[_]) (n:=17) Tryz.func141 rfl (by kernel_rfl) rfl (by simp) [.cell 2 75] rfl (fun C _=>?_)
  repeat (first |(refine wo rfl (fun k hk=>?_);simp(disch:=omega) only[go_sem,ξ,ζ];apply hk;clear hk k) |refine wkt rfl ?_ |refine wk0 ?_ |refine rg rfl rfl (fun K hK=>?_) |refine rd [.o 0,.o 1,.o 3,.o 4,.o 6,.o 7,.o 8,.o 9,.o 2,.o 5,.o 10,.o 11] rfl (by decide+kernel) rfl (fun K hK=>?_) |((first |refine ae ?_ |refine ac ?_);simp(disch:=decide) only[qs,qb,if_true,if_false,reduceIte]) |refine ah rfl (fun K hK=>?_) |refine ct rfl ?_ |((try simp(disch:=omega) only[go_sem,ξ,ζ]);(first |apply hK |(clear hK;apply hK) |(clear hK;clear hK;apply hK));clear hK;(try clear K);(try dsimp only[ag,qs,qb])))
  refine cN rfl rfl rfl rfl (by exact bK t2) ?_;rintro v1 h1 _ f1;obtain⟨v1_0,v1_1,v1_2,v1_3,v1_4,v1_5,v1_6,rfl,f1⟩:=f1.sa;(repeat (first |(refine wo rfl (fun k hk=>?_);simp(disch:=omega) only[go_sem,ξ,ζ];apply hk;clear hk k) |refine wkt rfl ?_));(try refine wk0 ?_)
  refine cN rfl rfl rfl rfl (by exact bK t1) ?_;rintro v2 h2 _ f2;obtain⟨v2_0,v2_1,v2_2,v2_3,v2_4,v2_5,v2_6,rfl,f2⟩:=f2.sa
  repeat (first |(refine wo rfl (fun k hk=>?_);simp(disch:=omega) only[go_sem,ξ,ζ];apply hk;clear hk k) |refine wkt rfl ?_ |refine wk0 ?_ |refine rg rfl rfl (fun K hK=>?_) |refine rd [.o 0,.o 1,.o 3,.o 4,.o 6,.o 7,.o 8,.o 9,.o 2,.o 5,.o 10,.o 11] rfl (by decide+kernel) rfl (fun K hK=>?_) |((first |refine ae ?_ |refine ac ?_);simp(disch:=decide) only[qs,qb,if_true,if_false,reduceIte]) |refine ah rfl (fun K hK=>?_) |refine ct rfl ?_ |((try simp(disch:=omega) only[go_sem,ξ,ζ]);(first |apply hK |(clear hK;apply hK) |(clear hK;clear hK;apply hK));clear hK;(try clear K);(try dsimp only[ag,qs,qb])))
  refine ai ?_;simp(disch:=omega) only[go_sem,ξ,ζ]
  have e3:(NS.i a b).minus.loN=b.isNone:=by cases b<;>rfl
  have e4:(NS.i a b).minus.hiN=a.isNone:=by cases a<;>rfl
  refine⟨_,_,_,_,_,_,by rw[e3,e4];rfl,?_,?_⟩
  ·have e1:(NS.i a b).minus.lo0= -(b.getD 0):=by cases b<;>simp[NS.minus,NS.lo0]
   rw[e1];exact f1.to
  ·have e1:(NS.i a b).minus.hi0= -(a.getD 0):=by cases a<;>simp[NS.minus,NS.hi0]
   rw[e1];exact f2
set_option maxHeartbeats 8000000
theorem IH {h0 h:PH} [Le h0 h] {v w:Value} {x y:Rat} (hx:Qr h0 v x) (hy:Qr h0 w y) (bx:sz x≤2^35) (by_:sz y≤2^35):
  Spec mach 17 #[v,w] h (fun v h'=>Qr h' v (x*y)) NP:=by
 have hx0:=hx
 have hy0:=hy
 obtain⟨na,nl,nc,da,dl,dc,e,rfl,hn,hd,he⟩:=hx.sl
 obtain⟨na',nl',nc',da',dl',dc',e',rfl,hn',hd',he'⟩:=hy.sl
 have b1:=bG x;have b2:=bB x;have b3:=bG y;have b4:=bB y
 have b5:=aG x.num.natAbs y.num.natAbs
 have b6:=aG x.den y.den
 refine Spec.enter (args:=[_,_]) (n:=21) Tryz.func17 rfl (by kernel_rfl) rfl (by simp) [.cell 4 33] rfl (fun C _=>?_)
 repeat (first |(refine wo rfl (fun k hk=>?_);simp(disch:=omega) only[go_sem,ξ,ζ];apply hk;clear hk k) |refine wkt rfl ?_ |refine wk0 ?_ |refine rg rfl rfl (fun K hK=>?_) |refine rd [.o 0,.o 1,.o 2,.o 3,.o 4,.o 5,.o 6,.o 7,.o 8,.o 10,.o 12,.o 9,.o 11,.o 13,.o 14,.o 15,.o 16] rfl (by decide+kernel) rfl (fun K hK=>?_) |((first |refine ae ?_ |refine ac ?_);simp(disch:=decide) only[qs,qb,if_true,if_false,reduceIte]) |refine ah rfl (fun K hK=>?_) |refine ct rfl ?_ |((try simp(disch:=omega) only[go_sem,ξ,ζ]);(first |apply hK |(clear hK;apply hK) |(clear hK;clear hK;apply hK));clear hK;(try clear K);(try dsimp only[ag,qs,qb])))
 refine cN rfl rfl rfl rfl (by exact aV hn hn' (by omega) (by omega)) ?_;rintro v1 h1 _ hv1;obtain⟨v1,v1_l,v1_c,rfl,hv1⟩:=hv1.sl;(repeat (first |(refine wo rfl (fun k hk=>?_);simp(disch:=omega) only[go_sem,ξ,ζ];apply hk;clear hk k) |refine wkt rfl ?_));(try refine wk0 ?_)
 refine cN rfl rfl rfl rfl (by exact dU hx0) ?_;rintro d1 g1 _ hd1;obtain⟨d1,d1_l,d1_c,rfl,hd1⟩:=hd1.sl;(repeat (first |(refine wo rfl (fun k hk=>?_);simp(disch:=omega) only[go_sem,ξ,ζ];apply hk;clear hk k) |refine wkt rfl ?_));(try refine wk0 ?_)
 refine cN rfl rfl rfl rfl (by exact dU hy0) ?_;rintro d2 g2 _ hd2;obtain⟨d2,d2_l,d2_c,rfl,hd2⟩:=hd2.sl;(repeat (first |(refine wo rfl (fun k hk=>?_);simp(disch:=omega) only[go_sem,ξ,ζ];apply hk;clear hk k) |refine wkt rfl ?_));(try refine wk0 ?_)
 refine cN rfl rfl rfl rfl (by exact aV (hd1.to (h':=g2)) hd2 (by omega) (by omega)) ?_;rintro v2 h2 _ hv2;obtain⟨v2,v2_l,v2_c,rfl,hv2⟩:=hv2.sl;(repeat (first |(refine wo rfl (fun k hk=>?_);simp(disch:=omega) only[go_sem,ξ,ζ];apply hk;clear hk k) |refine wkt rfl ?_));(try refine wk0 ?_)
 refine cN rfl rfl rfl rfl (by exact fQ (hv1.to (h':=h2)) hv2 (by omega) (by omega)) ?_;rintro v3 h3 _ hv3;obtain⟨v3_0,v3_1,v3_2,v3_3,v3_4,v3_5,v3_6,rfl,hv3⟩:=hv3.sa;(repeat (first |(refine wo rfl (fun k hk=>?_);simp(disch:=omega) only[go_sem,ξ,ζ];apply hk;clear hk k) |refine wkt rfl ?_));(try refine wk0 ?_)
 (try (simp(disch:=omega) only[go_sem,ξ,ζ]));apply hK;clear hK;(try clear K);(try dsimp only[ag,qs])
 refine ai ?_;simp(disch:=omega) only[go_sem,ξ,ζ]
 rw[qZ] at hv3
 exact hv3
@[reducible] def Pt.val:Pt→Rat
 |.fin q=>q
 |.inf _=>0
def RePt (h:PH) (v:Value) (z:Pt):Prop:=∃b x y,v=.agg #[.int .i64 z.side,.bool b,x,y]∧Qr h (.agg #[.bool b,x,y]) z.val
theorem RePt.to {h h':PH} {v:Value} {z:Pt} (r:RePt h v z) [Le h h']:RePt h' v z:=let ⟨a,b,c,h1,h2⟩:=r;⟨a,b,c,h1,h2.to⟩
theorem RePt.sa {h:PH} {v:Value} {z:Pt} (r:RePt h v z):∃b a1 m1 c1 a2 m2 c2,v=.agg #[.int .i64 z.side,.bool b,.slice a1 m1 c1,.slice a2 m2 c2]∧Qr h (.agg #[.bool b,.slice a1 m1 c1,.slice a2 m2 c2]) z.val:=by
 obtain⟨b,x,y,rfl,h1⟩:=r
 obtain⟨_,_,_,_,_,_,_,e1,_⟩:=h1.sa
 simp only[Value.agg.injEq,Array.mk.injEq,List.cons.injEq,and_true] at e1
 obtain⟨_,rfl,rfl⟩:=e1
 exact⟨_,_,_,_,_,_,_,rfl,h1⟩
def Pt.sg:Pt→Int
 |.fin q=>sgn3 q
 |.inf u=>if u=true then 1 else -1
theorem vA {h0 h:PH} [Le h0 h] {v:Value} {z:Pt} (hv:RePt h0 v z):Spec mach 257 #[v] h (fun r _=>r=.int .i64 z.sg) NP:=by
 obtain⟨b,a1,m1,c1,a2,m2,c2,rfl,e1⟩:=hv.sa
 cases z with
 | fin p=>
  dsimp only[Pt.side,Pt.sg,Pt.val] at*
  refine Spec.enter (args:=[_]) (n:=11) Tryz.func257 rfl (by kernel_rfl) rfl (by simp) [.tmp 2] rfl (fun C _=>?_)
  repeat (first |(refine wo rfl (fun k hk=>?_);simp(disch:=omega) only[go_sem,ξ,ζ];apply hk;clear hk k) |refine wkt rfl ?_ |refine wk0 ?_ |refine rg rfl rfl (fun K hK=>?_) |((first |refine ae ?_ |refine ac ?_);simp(disch:=decide) only[qs,qb,if_true,if_false,reduceIte]) |refine ah rfl (fun K hK=>?_) |refine ct rfl ?_ |((try simp(disch:=omega) only[go_sem,ξ,ζ]);(first |apply hK |(clear hK;apply hK) |(clear hK;clear hK;apply hK));clear hK;(try clear K);(try dsimp only[ag,qs,qb])))
  refine cN rfl rfl rfl rfl (by exact bS e1) ?_;rintro v1 h1 s1 rfl
  repeat (first |(refine wo rfl (fun k hk=>?_);simp(disch:=omega) only[go_sem,ξ,ζ];apply hk;clear hk k) |refine wkt rfl ?_ |refine wk0 ?_ |refine rg rfl rfl (fun K hK=>?_) |((first |refine ae ?_ |refine ac ?_);simp(disch:=decide) only[qs,qb,if_true,if_false,reduceIte]) |refine ah rfl (fun K hK=>?_) |refine ct rfl ?_ |((try simp(disch:=omega) only[go_sem,ξ,ζ]);(first |apply hK |(clear hK;apply hK) |(clear hK;clear hK;apply hK));clear hK;(try clear K);(try dsimp only[ag,qs,qb])))
  refine ai ?_;simp(disch:=omega) only[go_sem,ξ,ζ]
 | inf u=>
  cases u<;>
  ·dsimp only[Pt.side,Pt.sg,Pt.val] at*
   simp only[if_true,if_false,qAw,reduceIte]
   refine Spec.enter (args:=[_]) (n:=11) Tryz.func257 rfl (by kernel_rfl) rfl (by simp) [.tmp 2] rfl (fun C _=>?_)
   repeat (first |(refine wo rfl (fun k hk=>?_);simp(disch:=omega) only[go_sem,ξ,ζ];apply hk;clear hk k) |refine wkt rfl ?_ |refine wk0 ?_ |refine rg rfl rfl (fun K hK=>?_) |((first |refine ae ?_ |refine ac ?_);simp(disch:=decide) only[qs,qb,if_true,if_false,reduceIte]) |refine ah rfl (fun K hK=>?_) |refine ct rfl ?_ |((try simp(disch:=omega) only[go_sem,ξ,ζ]);(first |apply hK |(clear hK;apply hK) |(clear hK;clear hK;apply hK));clear hK;(try clear K);(try dsimp only[ag,qs,qb])))
   refine ai ?_;simp(disch:=omega) only[go_sem,ξ,ζ]
theorem Pt.sg_bd (z:Pt):z.sg= -1∨z.sg=0∨z.sg=1:=by
 cases z with
 |fin q=>exact BJ
 |inf u=>cases u<;>simp[Pt.sg]
theorem Pt.mul_zero {x y:Pt} (h:x.sg=0∨y.sg=0):x.mul y=.fin 0:=by
 cases x with
 | fin p=>cases y with
  | fin q=>
   show Pt.fin (p*q)=_
   rcases h with h |h
   ·have:=sgn3_zero.1 (show sgn3 p=0 from h);subst this;rw[Rat.zero_mul]
   ·have:=sgn3_zero.1 (show sgn3 q=0 from h);subst this;rw[Rat.mul_zero]
  | inf u=>
   have:=sgn3_zero.1 (show sgn3 p=0 from h.resolve_right (by cases u<;>simp[Pt.sg]));subst this;simp[Pt.mul]
 | inf u=>cases y with
  | fin q=>
   have:=sgn3_zero.1 (show sgn3 q=0 from h.resolve_left (by cases u<;>simp[Pt.sg]));subst this;simp[Pt.mul]
  |inf w=>rcases h with h |h<;>(revert h;cases u<;>cases w<;>simp[Pt.sg])
theorem Pt.mul_inf {x y:Pt} (hx:x.sg≠0) (hy:y.sg≠0) (h:x.side≠0∨y.side≠0):x.mul y=.inf (decide (x.sg=y.sg)):=by
 have key:∀{p:Rat},sgn3 p≠0→((0 < p∧sgn3 p=1)∨(¬0 < p∧sgn3 p= -1)):=by
  intro p hp
  have:=yB (q:=p);have:=BJ (q:=p);grind
 cases x with
 | fin p=>
  cases y with
  |fin q=>rcases h with h |h<;>exact(h rfl).elim
  | inf u=>
   have hp:p≠0:=fun k=>hx (sgn3_zero.2 k)
   show(if p=0 then Pt.fin 0 else .inf (u == decide (0 < p)))=_
   rw[if_neg hp]
   rcases key (show sgn3 p≠0 from hx) with⟨k1,k2⟩ |⟨k1,k2⟩<;>(show Pt.inf _=Pt.inf (decide (sgn3 p=_));rw[k2];simp only[k1,decide_true,decide_false];cases u<;>rfl)
 | inf u=>
  cases y with
  | fin q=>
   have hq:q≠0:=fun k=>hy (sgn3_zero.2 k)
   show(if q=0 then Pt.fin 0 else .inf (u == decide (0 < q)))=_
   rw[if_neg hq]
   rcases key (show sgn3 q≠0 from hy) with⟨k1,k2⟩ |⟨k1,k2⟩<;>(show Pt.inf _=Pt.inf (decide (_=sgn3 q));rw[k2];simp only[k1,decide_true,decide_false];cases u<;>rfl)
  |inf w=>cases u<;>cases w<;>rfl
theorem Pt.side_fin {x:Pt} (h:x.side=0):∃q,x=.fin q:=by
 cases x with
 |fin q=>exact⟨q,rfl⟩
 |inf u=>cases u<;>simp[Pt.side] at h
theorem Pt.side_bd (z:Pt):z.side= -1∨z.side=0∨z.side=1:=by
 cases z with
 |fin q=>exact .inr (.inl rfl)
 |inf u=>cases u<;>simp[Pt.side]
theorem Pt.sg_side {z:Pt} (h:z.side≠0):z.sg=z.side:=by
 cases z with
 |fin q=>exact(h rfl).elim
 |inf u=>rfl
theorem mw {h0 h:PH} [Le h0 h] {v w:Value} {x y:Pt} (hv:RePt h0 v x) (hw:RePt h0 w y) (lx:x.le (2^30)) (ly:y.le (2^30)):Spec mach 201 #[v,w] h (fun r h'=>RePt h' r (x.mul y)) NP:=by
 have k1:=fun {h} [Le h0 h]=>vA (h:=h) hv
 have k2:=fun {h} [Le h0 h]=>vA (h:=h) hw
 obtain⟨b,a1,m1,c1,a2,m2,c2,rfl,e1⟩:=hv.sa
 obtain⟨b',a1',m1',c1',a2',m2',c2',rfl,e2⟩:=hw.sa
 by_cases hz:x.sg=0∨y.sg=0
 ·rw[Pt.mul_zero hz]
  have hx:=Pt.sg_bd x
  have hy:=Pt.sg_bd y
  generalize x.sg=m at*
  generalize y.sg=n at*
  have hm:(m=0∧n= -1)∨(m=0∧n=0)∨(m=0∧n=1)∨(m= -1∧n=0)∨(m=1∧n=0):=by omega
  clear hx hy hz
  rcases hm with⟨rfl,rfl⟩ |⟨rfl,rfl⟩ |⟨rfl,rfl⟩ |⟨rfl,rfl⟩ |⟨rfl,rfl⟩<;>
  ·refine Spec.enter (args:=[_,_]) (n:=30) Tryz.func201 rfl (by kernel_rfl) rfl (by simp) [.cell 4 228] rfl (fun C _=>?_)
   repeat (first |(refine wo rfl (fun k hk=>?_);simp(disch:=omega) only[go_sem,ξ,ζ];apply hk;clear hk k) |refine wkt rfl ?_ |refine wk0 ?_ |refine rg rfl rfl (fun K hK=>?_) |refine rd [.o 0,.o 2,.o 1,.o 3,.o 4,.o 5] rfl (by decide+kernel) rfl (fun K hK=>?_) |((first |refine ae ?_ |refine ac ?_);simp(disch:=decide) only[qs,qb,if_true,if_false,reduceIte]) |refine ah rfl (fun K hK=>?_) |refine ct rfl ?_ |((try simp(disch:=omega) only[go_sem,ξ,ζ]);(first |apply hK |(clear hK;apply hK) |(clear hK;clear hK;apply hK));clear hK;(try clear K);(try dsimp only[ag,qs,qb])))
   refine cN rfl rfl rfl rfl (by exact k1) ?_;rintro v1 h1 s1 rfl;(repeat (first |(refine wo rfl (fun k hk=>?_);simp(disch:=omega) only[go_sem,ξ,ζ];apply hk;clear hk k) |refine wkt rfl ?_));(try refine wk0 ?_)
   refine cN rfl rfl rfl rfl (by exact k2) ?_;rintro v2 h2 s2 rfl
   repeat (first |(refine wo rfl (fun k hk=>?_);simp(disch:=omega) only[go_sem,ξ,ζ];apply hk;clear hk k) |refine wkt rfl ?_ |refine wk0 ?_ |refine rg rfl rfl (fun K hK=>?_) |refine rd [.o 0,.o 2,.o 1,.o 3,.o 4,.o 5] rfl (by decide+kernel) rfl (fun K hK=>?_) |((first |refine ae ?_ |refine ac ?_);simp(disch:=decide) only[qs,qb,if_true,if_false,reduceIte]) |refine ah rfl (fun K hK=>?_) |refine ct rfl ?_ |((try simp(disch:=omega) only[go_sem,ξ,ζ]);(first |apply hK |(clear hK;apply hK) |(clear hK;clear hK;apply hK));clear hK;(try clear K);(try dsimp only[ag,qs,qb])))
   refine ai ?_;simp(disch:=omega) only[go_sem,ξ,ζ]
   exact⟨_,_,_,rfl,Qr.none _⟩
 ·have hx0:x.sg≠0:=fun k=>hz (.inl k)
  have hy0:y.sg≠0:=fun k=>hz (.inr k)
  by_cases hs:x.side≠0∨y.side≠0
  ·rw[Pt.mul_inf hx0 hy0 hs]
   have hx:=Pt.sg_bd x
   have hy:=Pt.sg_bd y
   have tx:=Pt.side_bd x
   have ty:=Pt.side_bd y
   have gx:=fun k=>Pt.sg_side (z:=x) k
   have gy:=fun k=>Pt.sg_side (z:=y) k
   have hD:∀k:Bool,∃i,(Pt.inf k).side=i:=fun k=>⟨_,rfl⟩
   generalize x.sg=m at*
   generalize y.sg=n at*
   generalize x.side=s at*
   generalize y.side=t at*
   have hm:((m=1∨m= -1)∧(n=1∨n= -1))∧((s=m∧t=0)∨(s=m∧t=n)∨(s=0∧t=n)):=by
    have:=gx;have:=gy
    refine⟨by omega,?_⟩
    rcases tx with k |k |k<;>rcases ty with k' |k' |k'<;>(try have:=gx (by omega))<;>(try have:=gy (by omega))<;>omega
   clear hx hy hz tx ty gx gy hx0 hy0 hs hD
   obtain⟨⟨rfl |rfl,rfl |rfl⟩,⟨rfl,rfl⟩ |⟨rfl,rfl⟩ |⟨rfl,rfl⟩⟩:=hm<;>
   ·refine Spec.enter (args:=[_,_]) (n:=30) Tryz.func201 rfl (by kernel_rfl) rfl (by simp) [.cell 4 228] rfl (fun C _=>?_)
    repeat (first |(refine wo rfl (fun k hk=>?_);simp(disch:=omega) only[go_sem,ξ,ζ];apply hk;clear hk k) |refine wkt rfl ?_ |refine wk0 ?_ |refine rg rfl rfl (fun K hK=>?_) |refine rd [.o 0,.o 2,.o 1,.o 3,.o 4,.o 5] rfl (by decide+kernel) rfl (fun K hK=>?_) |((first |refine ae ?_ |refine ac ?_);simp(disch:=decide) only[qs,qb,if_true,if_false,reduceIte]) |refine ah rfl (fun K hK=>?_) |refine ct rfl ?_ |((try simp(disch:=omega) only[go_sem,ξ,ζ]);(first |apply hK |(clear hK;apply hK) |(clear hK;clear hK;apply hK));clear hK;(try clear K);(try dsimp only[ag,qs,qb])))
    refine cN rfl rfl rfl rfl (by exact k1) ?_;rintro v1 h1 s1 rfl;(repeat (first |(refine wo rfl (fun k hk=>?_);simp(disch:=omega) only[go_sem,ξ,ζ];apply hk;clear hk k) |refine wkt rfl ?_));(try refine wk0 ?_)
    refine cN rfl rfl rfl rfl (by exact k2) ?_;rintro v2 h2 s2 rfl
    repeat (first |(refine wo rfl (fun k hk=>?_);simp(disch:=omega) only[go_sem,ξ,ζ];apply hk;clear hk k) |refine wkt rfl ?_ |refine wk0 ?_ |refine rg rfl rfl (fun K hK=>?_) |refine rd [.o 0,.o 2,.o 1,.o 3,.o 4,.o 5] rfl (by decide+kernel) rfl (fun K hK=>?_) |((first |refine ae ?_ |refine ac ?_);simp(disch:=decide) only[qs,qb,if_true,if_false,reduceIte]) |refine ah rfl (fun K hK=>?_) |refine ct rfl ?_ |((try simp(disch:=omega) only[go_sem,ξ,ζ]);(first |apply hK |(clear hK;apply hK) |(clear hK;clear hK;apply hK));clear hK;(try clear K);(try dsimp only[ag,qs,qb])))
    refine ai ?_;simp(disch:=omega) only[go_sem,ξ,ζ]
    exact⟨_,_,_,rfl,Qr.none _⟩
  ·have s1:x.side=0:=Decidable.byContradiction fun k=>hs (.inl k)
   have s2:y.side=0:=Decidable.byContradiction fun k=>hs (.inr k)
   obtain⟨p,rfl⟩:=Pt.side_fin s1
   obtain⟨q,rfl⟩:=Pt.side_fin s2
   show Spec _ _ _ _ (fun r h'=>RePt h' r (.fin (p*q))) _
   have lp:sz p≤2^30:=lx
   have lq:sz q≤2^30:=ly
   have hx:=Pt.sg_bd (.fin p)
   have hy:=Pt.sg_bd (.fin q)
   dsimp only[Pt.side,Pt.val] at*
   clear hz hs s1 s2
   generalize(Pt.fin p).sg=m at*
   generalize(Pt.fin q).sg=n at*
   have hm:(m=1∨m= -1)∧(n=1∨n= -1):=by omega
   clear hx hy hx0 hy0
   obtain⟨rfl |rfl,rfl |rfl⟩:=hm<;>
   ·refine Spec.enter (args:=[_,_]) (n:=30) Tryz.func201 rfl (by kernel_rfl) rfl (by simp) [.cell 4 228] rfl (fun C _=>?_)
    repeat (first |(refine wo rfl (fun k hk=>?_);simp(disch:=omega) only[go_sem,ξ,ζ];apply hk;clear hk k) |refine wkt rfl ?_ |refine wk0 ?_ |refine rg rfl rfl (fun K hK=>?_) |refine rd [.o 0,.o 2,.o 1,.o 3,.o 4,.o 5] rfl (by decide+kernel) rfl (fun K hK=>?_) |((first |refine ae ?_ |refine ac ?_);simp(disch:=decide) only[qs,qb,if_true,if_false,reduceIte]) |refine ah rfl (fun K hK=>?_) |refine ct rfl ?_ |((try simp(disch:=omega) only[go_sem,ξ,ζ]);(first |apply hK |(clear hK;apply hK) |(clear hK;clear hK;apply hK));clear hK;(try clear K);(try dsimp only[ag,qs,qb])))
    refine cN rfl rfl rfl rfl (by exact k1) ?_;rintro v1 h1 s1 rfl;(repeat (first |(refine wo rfl (fun k hk=>?_);simp(disch:=omega) only[go_sem,ξ,ζ];apply hk;clear hk k) |refine wkt rfl ?_));(try refine wk0 ?_)
    refine cN rfl rfl rfl rfl (by exact k2) ?_;rintro v2 h2 s2 rfl
    repeat (first |(refine wo rfl (fun k hk=>?_);simp(disch:=omega) only[go_sem,ξ,ζ];apply hk;clear hk k) |refine wkt rfl ?_ |refine wk0 ?_ |refine rg rfl rfl (fun K hK=>?_) |refine rd [.o 0,.o 2,.o 1,.o 3,.o 4,.o 5] rfl (by decide+kernel) rfl (fun K hK=>?_) |((first |refine ae ?_ |refine ac ?_);simp(disch:=decide) only[qs,qb,if_true,if_false,reduceIte]) |refine ah rfl (fun K hK=>?_) |refine ct rfl ?_ |((try simp(disch:=omega) only[go_sem,ξ,ζ]);(first |apply hK |(clear hK;apply hK) |(clear hK;clear hK;apply hK));clear hK;(try clear K);(try dsimp only[ag,qs,qb])))
    refine cN rfl rfl rfl rfl (by exact IH (e1.to (h':=h2)) (e2.to (h':=h2)) (by omega) (by omega)) ?_;rintro v3 h3 _ f3;obtain⟨v3_0,v3_1,v3_2,v3_3,v3_4,v3_5,v3_6,rfl,f3⟩:=f3.sa
    repeat (first |(refine wo rfl (fun k hk=>?_);simp(disch:=omega) only[go_sem,ξ,ζ];apply hk;clear hk k) |refine wkt rfl ?_ |refine wk0 ?_ |refine rg rfl rfl (fun K hK=>?_) |refine rd [.o 0,.o 2,.o 1,.o 3,.o 4,.o 5] rfl (by decide+kernel) rfl (fun K hK=>?_) |((first |refine ae ?_ |refine ac ?_);simp(disch:=decide) only[qs,qb,if_true,if_false,reduceIte]) |refine ah rfl (fun K hK=>?_) |refine ct rfl ?_ |((try simp(disch:=omega) only[go_sem,ξ,ζ]);(first |apply hK |(clear hK;apply hK) |(clear hK;clear hK;apply hK));clear hK;(try clear K);(try dsimp only[ag,qs,qb])))
    refine ai ?_;simp(disch:=omega) only[go_sem,ξ,ζ]
    exact⟨_,_,_,rfl,f3⟩
def Pt.bef:Pt→Pt→Bool
 |.fin p,.fin q=>decide (p < q)
 |.inf u,.inf w=>!u && w
 |.inf u,.fin _=>!u
 |.fin _,.inf u=>u
theorem ji {h0 h:PH} [Le h0 h] {v w:Value} {x y:Pt} (hv:RePt h0 v x) (hw:RePt h0 w y) (lx:x.le (2^30)) (ly:y.le (2^30)):Spec mach 202 #[v,w] h (fun r _=>r=.bool (x.bef y)) NP:=by
 obtain⟨b,a1,m1,c1,a2,m2,c2,rfl,e1⟩:=hv.sa
 obtain⟨b',a1',m1',c1',a2',m2',c2',rfl,e2⟩:=hw.sa
 cases x with
 | fin p=>
  cases y with
  | fin q=>
   have lp:sz p≤2^30:=lx
   have lq:sz q≤2^30:=ly
   dsimp only[Pt.side,Pt.bef,Pt.val] at*
   by_cases hc:p < q
   ·have e3:cmpQ p q < 0:=by unfold cmpQ;grind
    rw[decide_eq_true hc]
    refine Spec.enter (args:=[_,_]) (n:=26) Tryz.func202 rfl (by kernel_rfl) rfl (by simp) [.tmp 4] rfl (fun C _=>?_)
    repeat (first |(refine wo rfl (fun k hk=>?_);simp(disch:=omega) only[go_sem,ξ,ζ];apply hk;clear hk k) |refine wkt rfl ?_ |refine wk0 ?_ |refine rg rfl rfl (fun K hK=>?_) |((first |refine ae ?_ |refine ac ?_);simp(disch:=decide) only[qs,qb,if_true,if_false,reduceIte]) |refine ah rfl (fun K hK=>?_) |refine ct rfl ?_ |((try simp(disch:=omega) only[go_sem,ξ,ζ]);(first |apply hK |(clear hK;apply hK) |(clear hK;clear hK;apply hK));clear hK;(try clear K);(try dsimp only[ag,qs,qb])))
    refine cN rfl rfl rfl rfl (by exact av e1 e2 (by omega) (by omega)) ?_;rintro v1 h1 s1 rfl;(repeat (first |(refine wo rfl (fun k hk=>?_);simp(disch:=omega) only[go_sem,ξ,ζ];apply hk;clear hk k) |refine wkt rfl ?_));(try refine wk0 ?_)
    (try (simp(disch:=omega) only[go_sem,ξ,ζ]));apply hK;clear hK;(try clear K);(try dsimp only[ag,qs])
    refine ai ?_;simp(disch:=omega) only[go_sem,ξ,ζ]
   ·have e3:¬cmpQ p q < 0:=by unfold cmpQ;grind
    rw[decide_eq_false hc]
    refine Spec.enter (args:=[_,_]) (n:=26) Tryz.func202 rfl (by kernel_rfl) rfl (by simp) [.tmp 4] rfl (fun C _=>?_)
    repeat (first |(refine wo rfl (fun k hk=>?_);simp(disch:=omega) only[go_sem,ξ,ζ];apply hk;clear hk k) |refine wkt rfl ?_ |refine wk0 ?_ |refine rg rfl rfl (fun K hK=>?_) |((first |refine ae ?_ |refine ac ?_);simp(disch:=decide) only[qs,qb,if_true,if_false,reduceIte]) |refine ah rfl (fun K hK=>?_) |refine ct rfl ?_ |((try simp(disch:=omega) only[go_sem,ξ,ζ]);(first |apply hK |(clear hK;apply hK) |(clear hK;clear hK;apply hK));clear hK;(try clear K);(try dsimp only[ag,qs,qb])))
    refine cN rfl rfl rfl rfl (by exact av e1 e2 (by omega) (by omega)) ?_;rintro v1 h1 s1 rfl;(repeat (first |(refine wo rfl (fun k hk=>?_);simp(disch:=omega) only[go_sem,ξ,ζ];apply hk;clear hk k) |refine wkt rfl ?_));(try refine wk0 ?_)
    (try (simp(disch:=omega) only[go_sem,ξ,ζ]));apply hK;clear hK;(try clear K);(try dsimp only[ag,qs])
    refine ai ?_;simp(disch:=omega) only[go_sem,ξ,ζ]
  | inf u=>
   cases u<;>
   ·dsimp only[Pt.side,Pt.bef,Pt.val] at*
    simp only[if_true,if_false,qAw,reduceIte]
    refine Spec.enter (args:=[_,_]) (n:=26) Tryz.func202 rfl (by kernel_rfl) rfl (by simp) [.tmp 4] rfl (fun C _=>?_)
    repeat (first |(refine wo rfl (fun k hk=>?_);simp(disch:=omega) only[go_sem,ξ,ζ];apply hk;clear hk k) |refine wkt rfl ?_ |refine wk0 ?_ |refine rg rfl rfl (fun K hK=>?_) |((first |refine ae ?_ |refine ac ?_);simp(disch:=decide) only[qs,qb,if_true,if_false,reduceIte]) |refine ah rfl (fun K hK=>?_) |refine ct rfl ?_ |((try simp(disch:=omega) only[go_sem,ξ,ζ]);(first |apply hK |(clear hK;apply hK) |(clear hK;clear hK;apply hK));clear hK;(try clear K);(try dsimp only[ag,qs,qb])))
    refine ai ?_;simp(disch:=omega) only[go_sem,ξ,ζ]
    try rfl
 | inf u=>
  cases y with
  | fin q=>
   cases u<;>
   ·dsimp only[Pt.side,Pt.bef,Pt.val] at*
    simp only[if_true,if_false,qAw,reduceIte]
    refine Spec.enter (args:=[_,_]) (n:=26) Tryz.func202 rfl (by kernel_rfl) rfl (by simp) [.tmp 4] rfl (fun C _=>?_)
    repeat (first |(refine wo rfl (fun k hk=>?_);simp(disch:=omega) only[go_sem,ξ,ζ];apply hk;clear hk k) |refine wkt rfl ?_ |refine wk0 ?_ |refine rg rfl rfl (fun K hK=>?_) |((first |refine ae ?_ |refine ac ?_);simp(disch:=decide) only[qs,qb,if_true,if_false,reduceIte]) |refine ah rfl (fun K hK=>?_) |refine ct rfl ?_ |((try simp(disch:=omega) only[go_sem,ξ,ζ]);(first |apply hK |(clear hK;apply hK) |(clear hK;clear hK;apply hK));clear hK;(try clear K);(try dsimp only[ag,qs,qb])))
    refine ai ?_;simp(disch:=omega) only[go_sem,ξ,ζ]
    try rfl
  | inf w=>
   cases u<;>cases w<;>
   ·dsimp only[Pt.side,Pt.bef,Pt.val] at*
    simp only[if_true,if_false,qAw,reduceIte]
    refine Spec.enter (args:=[_,_]) (n:=26) Tryz.func202 rfl (by kernel_rfl) rfl (by simp) [.tmp 4] rfl (fun C _=>?_)
    repeat (first |(refine wo rfl (fun k hk=>?_);simp(disch:=omega) only[go_sem,ξ,ζ];apply hk;clear hk k) |refine wkt rfl ?_ |refine wk0 ?_ |refine rg rfl rfl (fun K hK=>?_) |((first |refine ae ?_ |refine ac ?_);simp(disch:=decide) only[qs,qb,if_true,if_false,reduceIte]) |refine ah rfl (fun K hK=>?_) |refine ct rfl ?_ |((try simp(disch:=omega) only[go_sem,ξ,ζ]);(first |apply hK |(clear hK;apply hK) |(clear hK;clear hK;apply hK));clear hK;(try clear K);(try dsimp only[ag,qs,qb])))
    refine ai ?_;simp(disch:=omega) only[go_sem,ξ,ζ]
    try rfl
theorem Gn {h0 h:PH} [Le h0 h] {v:Value} {a b:Option Rat} (hv:Rr h0 v (.i a b)):Spec mach 200 #[v] h (fun r h'=>∃b1 a1 m1 c1 a2 m2 c2 b2 a3 m3 c3 a4 m4 c4,r=.agg #[.int .i64 (lowP a).side,.bool b1,.slice a1 m1 c1,.slice a2 m2 c2,.int .i64 (highP b).side,.bool b2,.slice a3 m3 c3,.slice a4 m4 c4]∧
  RePt h' (.agg #[.int .i64 (lowP a).side,.bool b1,.slice a1 m1 c1,.slice a2 m2 c2]) (lowP a)∧RePt h' (.agg #[.int .i64 (highP b).side,.bool b2,.slice a3 m3 c3,.slice a4 m4 c4]) (highP b)) NP:=by
 obtain⟨_,_,_,_,_,_,_,_,_,_,_,_,_,_,rfl,t1,t2⟩:=hv.sa
 dsimp only[NS.void,NS.loN,NS.hiN,NS.lo0,NS.hi0] at*
 cases a<;>cases b<;>
 ·dsimp only[Option.isNone,Option.getD] at*
  refine Spec.enter (args:=[_]) (n:=20) Tryz.func200 rfl (by kernel_rfl) rfl (by simp) [.cell 2 229] rfl (fun C _=>?_)
  repeat (first |(refine wo rfl (fun k hk=>?_);simp(disch:=omega) only[go_sem,ξ,ζ,Nat.reduceMul,Nat.zero_mul,Nat.zero_add,Int.toNat_one,qBm];apply hk;clear hk k) |refine wkt rfl ?_ |refine wk0 ?_ |refine rg rfl rfl (fun K hK=>?_) |((first |refine ae ?_ |refine ac ?_);simp(disch:=decide) only[qs,qb,if_true,if_false,reduceIte]) |refine ah rfl (fun K hK=>?_) |refine ct rfl ?_ |((try simp(disch:=omega) only[go_sem,ξ,ζ]);(first |apply hK |(clear hK;apply hK) |(clear hK;clear hK;apply hK));clear hK;(try clear K);(try dsimp only[ag,qs,qb])))
  refine ai ?_;simp(disch:=omega) only[go_sem,ξ,ζ]
  exact⟨_,_,_,_,_,_,_,_,_,_,_,_,_,_,rfl,⟨_,_,_,rfl,by first |exact t1.to |exact Qr.none _⟩,⟨_,_,_,rfl,by first |exact t2.to |exact Qr.none _⟩⟩
def rlow (o:NS×Bool×Bool):Pt:=bif o.2.1 then .inf false else match o.1 with
 |.e=>.inf true
 |.i (some a) _=>.fin a
 |.i none _=>.inf false
def rhigh (o:NS×Bool×Bool):Pt:=bif o.2.2 then .inf true else match o.1 with
 |.e=>.inf false
 |.i _ (some b)=>.fin b
 |.i _ none=>.inf true
theorem tJ {o:NS×Bool×Bool} {z:Pt} (ho:o.1=.e∨∃a b,o.1=.i (some a) (some b)):rlow (stp o z)=bif z.bef (rlow o) then z else rlow o:=by
 obtain⟨s,l,u⟩:=o
 rcases ho with e |⟨a,b,e⟩<;>(dsimp only at e;subst e)<;>cases z with
 | fin q=>cases l with
  |true=>rfl
  |false=>first |rfl |(show Pt.fin (min a q)=bif decide (q < a) then .fin q else .fin a;by_cases h:q < a<;>simp only[h,decide_true,decide_false,cond_true,cond_false]<;>congr 1<;>grind)
 |inf v=>cases v<;>cases l<;>rfl
theorem qW {o:NS×Bool×Bool} {z:Pt} (ho:o.1=.e∨∃a b,o.1=.i (some a) (some b)):rhigh (stp o z)=bif (rhigh o).bef z then z else rhigh o:=by
 obtain⟨s,l,u⟩:=o
 rcases ho with e |⟨a,b,e⟩<;>(dsimp only at e;subst e)<;>cases z with
 | fin q=>cases u with
  |true=>rfl
  |false=>first |rfl |(show Pt.fin (max b q)=bif decide (b < q) then .fin q else .fin b;by_cases h:b < q<;>simp only[h,decide_true,decide_false,cond_true,cond_false]<;>congr 1<;>grind)
 |inf v=>cases v<;>cases u<;>rfl
theorem wz {o:NS×Bool×Bool} {k:Nat} (h:NS.pts k o):(rlow o).le k:=by
 obtain⟨s,l,u⟩:=o
 obtain⟨_,h2,h3⟩:=h
 dsimp only at h2 h3
 cases l with
 |true=>trivial
 | false=>
  rcases h3 with e |⟨a,b,e⟩<;>subst e
  ·trivial
  ·exact((NS.le_i).1 h2).1 a rfl
theorem tI {o:NS×Bool×Bool} {k:Nat} (h:NS.pts k o):(rhigh o).le k:=by
 obtain⟨s,l,u⟩:=o
 obtain⟨_,h2,h3⟩:=h
 dsimp only at h2 h3
 cases u with
 |true=>trivial
 | false=>
  rcases h3 with e |⟨a,b,e⟩<;>subst e
  ·trivial
  ·exact((NS.le_i).1 h2).2 b rfl
end Go.Q
