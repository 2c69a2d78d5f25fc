/-
  Contracts of the reference's intervals, and what stands on it. Conditions: each theorem's own.
-/
import Derived.Test.YtdhfkmaejkgceaaGreatDoorK678323PkP
import Derived.Test.YtdhfkmaejkgceaaGreatDoorK84a2d9PkN
set_option linter.unusedVariables false
set_option linter.unusedSimpArgs false
open Nat renaming reduceBEq→ξ,reduceAdd→ζ,one_mul→qBm
open Bool renaming false_eq_true→qAw
namespace Go.Q
open Go.Proofs
set_option maxRecDepth 100000
set_option maxHeartbeats 16000000
theorem RePt.list {h:PH} {cs:List Value} {z:Pt} (r:RePt h (.agg cs.toArray) z):∃g1 g2 g3 g4 g5 g6 g7,cs=[.int .i64 z.side,.bool g1,.slice g2 g3 g4,.slice g5 g6 g7]:=by
 obtain⟨_,_,_,_,_,_,_,e,_⟩:=r.sa
 simp only[Value.agg.injEq,Array.mk.injEq] at e
 exact⟨_,_,_,_,_,_,_,e⟩
theorem RePt.q {h:PH} {b:Bool} {a1 a2:Option Addr} {m1 c1 m2 c2:Nat} {k:Int} {z:Pt} (r:RePt h (.agg #[.int .i64 k,.bool b,.slice a1 m1 c1,.slice a2 m2 c2]) z):Qr h (.agg #[.bool b,.slice a1 m1 c1,.slice a2 m2 c2]) z.val:=by
 obtain⟨_,_,_,e,q⟩:=r
 simp only[Value.agg.injEq,Array.mk.injEq,List.cons.injEq,and_true,Value.bool.injEq] at e
 obtain⟨_,rfl,rfl,rfl⟩:=e
 exact q
theorem EM {h0 h:PH} [Le h0 h] {v w:Value} {a b c d:Option Rat} (hs:Rr h0 v (.i a b)) (ht:Rr h0 w (.i c d)) (ls:(NS.i a b).le 2048) (lt:(NS.i c d).le 2048):
  Spec mach 137 #[v,w] h (fun v h'=>Rr h' v ((NS.i a b).prod (.i c d))) NP:=by
 rw[NS.le_i] at ls lt
 have la0:=qR ls.1
 have lb0:=og ls.2
 have lc0:=qR lt.1
 have ld0:=og lt.2
 have la:=Pt.up (m:=2^30) la0 (by decide)
 have lb:=Pt.up (m:=2^30) lb0 (by decide)
 have lc:=Pt.up (m:=2^30) lc0 (by decide)
 have ld:=Pt.up (m:=2^30) ld0 (by decide)
 have kA:=fun {h} [Le h0 h]=>Gn (h:=h) hs
 have kB:=fun {h} [Le h0 h]=>Gn (h:=h) ht
 have he:=wr (a:=a) (b:=b) (c:=c) (d:=d)
 obtain⟨b1,a1,m1,c1,a2,m2,c2,b2,a3,m3,c3,a4,m4,c4,rfl,_,_⟩:=hs.sa
 obtain⟨b1',a1',m1',c1',a2',m2',c2',b2',a3',m3',c3',a4',m4',c4',rfl,_,_⟩:=ht.sa
 show Spec _ _ _ _ (fun v h'=>Rr h' v (fin3 (outer (lowP a) (highP b) (lowP c) (highP d) 2))) _
 generalize lowP a=x1 at*
 generalize highP b=x2 at*
 generalize lowP c=y1 at*
 generalize highP d=y2 at*
 dsimp only[NS.void,NS.loN,NS.hiN] at*
 refine Spec.enter (args:=[_,_]) (n:=65) Tryz.func137 rfl (by kernel_rfl) rfl (by simp) [.cell 4 75] rfl (fun C _=>?_)
 repeat (first |(refine wo rfl (fun k hk=>?_);simp(disch:=omega) only[go_sem,ξ,ζ,Nat.reduceMul,Nat.zero_mul,Nat.zero_add,Int.toNat_one,qBm];apply hk;clear hk k) |refine wkt rfl ?_ |refine wk0 ?_ |refine rg rfl rfl (fun K hK=>?_) |((first |refine ae ?_ |refine ac ?_);simp(disch:=decide) only[qs,qb,if_true,if_false,reduceIte]) |refine ah rfl (fun K hK=>?_) |refine ct rfl ?_ |((try simp(disch:=omega) only[go_sem,ξ,ζ]);(first |apply hK |(clear hK;apply hK) |(clear hK;clear hK;apply hK));clear hK;(try clear K);(try dsimp only[ag,qs,qb])))
 refine cN rfl rfl rfl rfl (by exact kA) ?_;rintro w1 h1 s1 zz1;obtain⟨p1,p2,p3,p4,p5,p6,p7,q1,q2,q3,q4,q5,q6,q7,rfl,ea,eb⟩:=zz1
 repeat (first |(refine wo rfl (fun k hk=>?_);simp(disch:=omega) only[go_sem,ξ,ζ,Nat.reduceMul,Nat.zero_mul,Nat.zero_add,Int.toNat_one,qBm];apply hk;clear hk k) |refine wkt rfl ?_ |refine wk0 ?_ |refine rg rfl rfl (fun K hK=>?_) |((first |refine ae ?_ |refine ac ?_);simp(disch:=decide) only[qs,qb,if_true,if_false,reduceIte]) |refine ah rfl (fun K hK=>?_) |refine ct rfl ?_ |((try simp(disch:=omega) only[go_sem,ξ,ζ]);(first |apply hK |(clear hK;apply hK) |(clear hK;clear hK;apply hK));clear hK;(try clear K);(try dsimp only[ag,qs,qb])))
 refine eO (fun x:Nat×List Value×List Value=>⟨[(3,.p 1 0),(4,.p 2 0),(5,.p 3 0),(6,.p 4 0),(23,.v (.agg #[.int .i64 x1.side,.bool p1,.slice p2 p3 p4,.slice p5 p6 p7,.int .i64 x2.side,.bool q1,.slice q2 q3 q4,.slice q5 q6 q7])),(24,.v (.int .i64 x.1))],[[.bool b1,.slice a1 m1 c1,.slice a2 m2 c2,.bool b2,.slice a3 m3 c3,.slice a4 m4 c4,.bool a.isNone,.bool b.isNone,.bool false],[.bool b1',.slice a1' m1' c1',.slice a2' m2' c2',.bool b2',.slice a3' m3' c3',.slice a4' m4' c4',.bool c.isNone,.bool d.isNone,.bool false],[.bool false,.slice none 0 0,.slice none 0 0,.bool false,.slice none 0 0,.slice none 0 0,.bool false,.bool false,.bool false],x.2.1,x.2.2]⟩)
  (fun x h'=>Le h1 h'∧x.1≤2∧∃o,NS.pts 4096 o∧RePt h' (.agg x.2.1.toArray) (rlow o)∧RePt h' (.agg x.2.2.toArray) (rhigh o)∧outer x1 x2 y1 y2 x.1=o)
  (fun x=>2 - x.1) (0,[.int .i64 1,.bool false,.slice none 0 0,.slice none 0 0],[.int .i64 (-1),.bool false,.slice none 0 0,.slice none 0 0]) [0,1,2,3,4] ?_ ⟨inferInstance,by decide,(.e,false,false),⟨trivial,rfl,.inl rfl⟩,⟨_,_,_,rfl,Qr.none _⟩,⟨_,_,_,rfl,Qr.none _⟩,rfl⟩ ?_
 ·simp(disch:=omega) only[go_sem,ξ,ζ,aJ]
 rintro⟨i,cs,ds⟩ h2 ⟨le2,hi2,o,hpt,hL,hM,hacc⟩
 have leh:Le h0 h2:=Le.tr inferInstance le2
 dsimp only at*
 obtain⟨g1,g2,g3,g4,g5,g6,g7,rfl⟩:=hL.list
 obtain⟨k1,k2,k3,k4,k5,k6,k7,rfl⟩:=hM.list
 obtain rfl |rfl |rfl:i=2∨i=0∨i=1:=by omega
 ·rw[hacc] at he
  have qL:=hL.q
  have qM:=hM.q
  clear hL hM
  obtain⟨s,l,u⟩:=o
  rcases hpt.2.2 with e |⟨lo,hi,e⟩<;>(dsimp only at e;subst e)
  ·have:=he rfl
   cases this
   dsimp only[rlow,rhigh,cond_true,cond_false,Pt.side,Pt.val] at*
   simp only[if_true,if_false,qAw,reduceIte]
   repeat (first |(refine wo rfl (fun k hk=>?_);simp(disch:=omega) only[go_sem,ξ,ζ,Nat.reduceMul,Nat.zero_mul,Nat.zero_add,Int.toNat_one,qBm];apply hk;clear hk k) |refine wkt rfl ?_ |refine wk0 ?_ |refine rg rfl rfl (fun K hK=>?_) |((first |refine ae ?_ |refine ac ?_);simp(disch:=decide) only[qs,qb,if_true,if_false,reduceIte]) |refine ah rfl (fun K hK=>?_) |refine ct rfl ?_ |((try simp(disch:=omega) only[go_sem,ξ,ζ]);(first |apply hK |(clear hK;apply hK) |(clear hK;clear hK;apply hK));clear hK;(try clear K);(try dsimp only[ag,qs,qb])))
   refine ai ?_;simp(disch:=omega) only[go_sem,ξ,ζ]
   rw[hacc]
   exact⟨_,_,_,_,_,_,rfl,Qr.none _,Qr.none _⟩
  ·cases l<;>cases u<;>
   ·dsimp only[rlow,rhigh,cond_true,cond_false,Pt.side,Pt.val] at*
    try simp only[if_true,if_false,qAw,reduceIte]
    repeat (first |(refine wo rfl (fun k hk=>?_);simp(disch:=omega) only[go_sem,ξ,ζ,Nat.reduceMul,Nat.zero_mul,Nat.zero_add,Int.toNat_one,qBm];apply hk;clear hk k) |refine wkt rfl ?_ |refine wk0 ?_ |refine rg rfl rfl (fun K hK=>?_) |((first |refine ae ?_ |refine ac ?_);simp(disch:=decide) only[qs,qb,if_true,if_false,reduceIte]) |refine ah rfl (fun K hK=>?_) |refine ct rfl ?_ |((try simp(disch:=omega) only[go_sem,ξ,ζ]);(first |apply hK |(clear hK;apply hK) |(clear hK;clear hK;apply hK));clear hK;(try clear K);(try dsimp only[ag,qs,qb])))
    refine ai ?_;simp(disch:=omega) only[go_sem,ξ,ζ]
    rw[hacc]
    exact⟨_,_,_,_,_,_,rfl,by first |exact qL.to |exact Qr.none _,by first |exact qM.to |exact Qr.none _⟩
 ·repeat (first |(refine wo rfl (fun k hk=>?_);simp(disch:=omega) only[go_sem,ξ,ζ,Nat.reduceMul,Nat.zero_mul,Nat.zero_add,Int.toNat_one,qBm];apply hk;clear hk k) |refine wkt rfl ?_ |refine wk0 ?_ |refine rg rfl rfl (fun K hK=>?_) |((first |refine ae ?_ |refine ac ?_);simp(disch:=decide) only[qs,qb,if_true,if_false,reduceIte]) |refine ah rfl (fun K hK=>?_) |refine ct rfl ?_ |((try simp(disch:=omega) only[go_sem,ξ,ζ]);(first |apply hK |(clear hK;apply hK) |(clear hK;clear hK;apply hK));clear hK;(try clear K);(try dsimp only[ag,qs,qb])))
  refine cN rfl rfl rfl rfl (by exact kB) ?_;rintro w3 h3 s3 zz3;obtain⟨r1,r2,r3,r4,r5,r6,r7,t1,t2,t3,t4,t5,t6,t7,rfl,ec,ed⟩:=zz3
  repeat (first |(refine wo rfl (fun k hk=>?_);simp(disch:=omega) only[go_sem,ξ,ζ,Nat.reduceMul,Nat.zero_mul,Nat.zero_add,Int.toNat_one,qBm];apply hk;clear hk k) |refine wkt rfl ?_ |refine wk0 ?_ |((first |refine rg rfl rfl (fun K hK=>?_));(repeat (first |(refine wo rfl (fun k hk=>?_);simp(disch:=omega) only[go_sem,ξ,ζ,Nat.reduceMul,Nat.zero_mul,Nat.zero_add,Int.toNat_one,qBm];apply hk;clear hk k) |refine wkt rfl ?_ |refine wk0 ?_));(first |apply hK |(clear hK;apply hK) |(clear hK;clear hK;apply hK));clear hK;(try clear K);(try dsimp only[ag,qs,qb])) |((first |refine ae ?_ |refine ac ?_);simp(disch:=decide) only[qs,qb,if_true,if_false,reduceIte]) |refine ah rfl (fun K hK=>?_) |refine ct rfl ?_ |((try simp(disch:=omega) only[go_sem,ξ,ζ]);(first |apply hK |(clear hK;apply hK) |(clear hK;clear hK;apply hK));clear hK;(try clear K);(try dsimp only[ag,qs,qb])))
  have eX:=ea.to (h':=h3)
  have hO:outer x1 x2 y1 y2 (0+1)=inn x1 y1 y2 o 2:=by rw[←hacc];rfl
  have lX:x1.le (2^30):=la
  have lX0:x1.le 2048:=la0
  clear hacc
  generalize hOO:o=O at hO
  refine eO (fun x:Nat×List Value×List Value=>⟨[(3,.p 1 0),(4,.p 2 0),(5,.p 3 0),(6,.p 4 0),(8,.p 5 0),(23,.v (.agg #[.int .i64 x1.side,.bool p1,.slice p2 p3 p4,.slice p5 p6 p7,.int .i64 x2.side,.bool q1,.slice q2 q3 q4,.slice q5 q6 q7])),(24,.v (.int .i64 0)),(28,.v (.agg #[.int .i64 y1.side,.bool r1,.slice r2 r3 r4,.slice r5 r6 r7,.int .i64 y2.side,.bool t1,.slice t2 t3 t4,.slice t5 t6 t7])),(29,.v (.int .i64 x.1))],[[.bool b1,.slice a1 m1 c1,.slice a2 m2 c2,.bool b2,.slice a3 m3 c3,.slice a4 m4 c4,.bool a.isNone,.bool b.isNone,.bool false],[.bool b1',.slice a1' m1' c1',.slice a2' m2' c2',.bool b2',.slice a3' m3' c3',.slice a4' m4' c4',.bool c.isNone,.bool d.isNone,.bool false],[.bool false,.slice none 0 0,.slice none 0 0,.bool false,.slice none 0 0,.slice none 0 0,.bool false,.bool false,.bool false],x.2.1,x.2.2,[.int .i64 x1.side,.bool p1,.slice p2 p3 p4,.slice p5 p6 p7]]⟩)
   (fun x h'=>Le h3 h'∧x.1≤2∧∃o,NS.pts 4096 o∧RePt h' (.agg x.2.1.toArray) (rlow o)∧RePt h' (.agg x.2.2.toArray) (rhigh o)∧inn x1 y1 y2 O x.1=o)
   (fun x=>2 - x.1) (0,_,_) [0,1,2,3,4,5] ?_ ⟨inferInstance,(show 0≤2 by decide),o,hpt,hL.to (h':=h3),hM.to (h':=h3),hOO.symm⟩ ?_
  ·simp(disch:=omega) only[go_sem,ξ,ζ,aJ]
   subst hOO
   exact⟨.inr rfl,.inr rfl⟩
  clear hL hM hpt hOO o g1 g2 g3 g4 g5 g6 g7 k1 k2 k3 k4 k5 k6 k7
  rintro⟨j,cs,ds⟩ h4 ⟨le4,hj,o,hpt,hL,hM,hacc⟩
  dsimp only at*
  generalize hX:x1=X at*
  obtain⟨g1,g2,g3,g4,g5,g6,g7,rfl⟩:=hL.list
  obtain⟨k1,k2,k3,k4,k5,k6,k7,rfl⟩:=hM.list
  obtain rfl |rfl |rfl:j=2∨j=0∨j=1:=by omega
  ·repeat (first |(refine wo rfl (fun k hk=>?_);simp(disch:=omega) only[go_sem,ξ,ζ,Nat.reduceMul,Nat.zero_mul,Nat.zero_add,Int.toNat_one,qBm];apply hk;clear hk k) |refine wkt rfl ?_ |refine wk0 ?_ |refine rg rfl rfl (fun K hK=>?_) |((first |refine ae ?_ |refine ac ?_);simp(disch:=decide) only[qs,qb,if_true,if_false,reduceIte]) |refine ah rfl (fun K hK=>?_) |refine ct rfl ?_ |((try simp(disch:=omega) only[go_sem,ξ,ζ]);(first |apply hK |(clear hK;apply hK) |(clear hK;clear hK;apply hK));clear hK;(try clear K);(try dsimp only[ag,qs,qb])))
   refine⟨(0+1,_,_),[0,1,2,3,4],?_,⟨Le.tr le2 (Le.tr inferInstance le4),(show 0+1≤2 by decide),o,hpt,hL,hM,by rw[hO];exact hacc⟩,(show 2 - (0+1) < 2 - 0 by decide)⟩
   simp(disch:=omega) only[go_sem,ξ,ζ,aJ]
   all_goals rfl
  ·have lz:=lU lX0 lc0 (by decide)
   have hz:inn X y1 y2 O (0+1)=stp o (X.mul y1):=by rw[←hacc];rfl
   have e1:=tJ (z:=X.mul y1) hpt.2.2
   have e2:=qW (z:=X.mul y1) hpt.2.2
   have hpt':=ja (z:=X.mul y1) hpt lz
   have kT:=fun {h} [Le h4 h]=>mw (h:=h) (eX.to (h':=h4)) (ec.to (h':=h4)) lX lc
   generalize X.mul y1=z at*
   have lz':=Pt.up (m:=2^30) lz (by decide)
   have lL:=Pt.up (m:=2^30) (wz hpt) (by decide)
   have lM:=Pt.up (m:=2^30) (tI hpt) (by decide)
   cases b1:z.bef (rlow o)<;>cases b2:(rhigh o).bef z<;>
   ·rw[b1] at e1
    rw[b2] at e2
    dsimp only[cond_true,cond_false] at e1 e2
    repeat (first |(refine wo rfl (fun k hk=>?_);simp(disch:=omega) only[go_sem,ξ,ζ,Nat.reduceMul,Nat.zero_mul,Nat.zero_add,Int.toNat_one,qBm];apply hk;clear hk k) |refine wkt rfl ?_ |refine wk0 ?_ |refine rg rfl rfl (fun K hK=>?_) |((first |refine ae ?_ |refine ac ?_);simp(disch:=decide) only[qs,qb,if_true,if_false,reduceIte]) |refine ah rfl (fun K hK=>?_) |refine ct rfl ?_ |((try simp(disch:=omega) only[go_sem,ξ,ζ]);(first |apply hK |(clear hK;apply hK) |(clear hK;clear hK;apply hK));clear hK;(try clear K);(try dsimp only[ag,qs,qb])))
    refine cN rfl rfl rfl rfl (by exact kT) ?_;rintro w5 h5 s5 zz5;obtain⟨f1,f2,f3,f4,f5,f6,f7,rfl,zz5c⟩:=zz5.sa
    repeat (first |(refine wo rfl (fun k hk=>?_);simp(disch:=omega) only[go_sem,ξ,ζ,Nat.reduceMul,Nat.zero_mul,Nat.zero_add,Int.toNat_one,qBm];apply hk;clear hk k) |refine wkt rfl ?_ |refine wk0 ?_ |((first |refine rg rfl rfl (fun K hK=>?_));(repeat (first |(refine wo rfl (fun k hk=>?_);simp(disch:=omega) only[go_sem,ξ,ζ,Nat.reduceMul,Nat.zero_mul,Nat.zero_add,Int.toNat_one,qBm];apply hk;clear hk k) |refine wkt rfl ?_ |refine wk0 ?_));(first |apply hK |(clear hK;apply hK) |(clear hK;clear hK;apply hK));clear hK;(try clear K);(try dsimp only[ag,qs,qb])) |((first |refine ae ?_ |refine ac ?_);simp(disch:=decide) only[qs,qb,if_true,if_false,reduceIte]) |refine ah rfl (fun K hK=>?_) |refine ct rfl ?_ |((try simp(disch:=omega) only[go_sem,ξ,ζ]);(first |apply hK |(clear hK;apply hK) |(clear hK;clear hK;apply hK));clear hK;(try clear K);(try dsimp only[ag,qs,qb])))
    have zz5d:RePt h5 (.agg #[.int .i64 z.side,.bool f1,.slice f2 f3 f4,.slice f5 f6 f7]) z:=⟨_,_,_,rfl,zz5c⟩
    have kP:=fun {h} [Le h5 h]=>ji (h:=h) zz5d (hL.to (h':=h5)) lz' lL
    have kQ:=fun {h} [Le h5 h]=>ji (h:=h) (hM.to (h':=h5)) zz5d lM lz'
    rw[b1] at kP
    rw[b2] at kQ
    refine rg rfl rfl (fun K hK=>?_);(repeat (first |(refine wo rfl (fun k hk=>?_);simp(disch:=omega) only[go_sem,ξ,ζ];apply hk;clear hk k) |refine wkt rfl ?_));(try refine wk0 ?_)
    refine cN rfl rfl rfl rfl (by exact kP) ?_;rintro w6 h6 s6 rfl
    repeat (first |(refine wo rfl (fun k hk=>?_);simp(disch:=omega) only[go_sem,ξ,ζ,Nat.reduceMul,Nat.zero_mul,Nat.zero_add,Int.toNat_one,qBm];apply hk;clear hk k) |refine wkt rfl ?_ |refine wk0 ?_ |refine rg rfl rfl (fun K hK=>?_) |((first |refine ae ?_ |refine ac ?_);simp(disch:=decide) only[qs,qb,if_true,if_false,reduceIte]) |refine ah rfl (fun K hK=>?_) |refine ct rfl ?_ |((try simp(disch:=omega) only[go_sem,ξ,ζ]);(first |apply hK |(clear hK;apply hK) |(clear hK;clear hK;apply hK));clear hK;(try clear K);(try dsimp only[ag,qs,qb])))
    refine cN rfl rfl rfl rfl (by exact kQ) ?_;rintro w7 h7 s7 rfl
    repeat (first |(refine wo rfl (fun k hk=>?_);simp(disch:=omega) only[go_sem,ξ,ζ,Nat.reduceMul,Nat.zero_mul,Nat.zero_add,Int.toNat_one,qBm];apply hk;clear hk k) |refine wkt rfl ?_ |refine wk0 ?_ |refine rg rfl rfl (fun K hK=>?_) |((first |refine ae ?_ |refine ac ?_);simp(disch:=decide) only[qs,qb,if_true,if_false,reduceIte]) |refine ah rfl (fun K hK=>?_) |refine ct rfl ?_ |((try simp(disch:=omega) only[go_sem,ξ,ζ]);(first |apply hK |(clear hK;apply hK) |(clear hK;clear hK;apply hK));clear hK;(try clear K);(try dsimp only[ag,qs,qb])))
    refine⟨(0+1,_,_),[0,1,2,3,4,5],?_,⟨inferInstance,(show 0+1≤2 by decide),_,hpt',by rw[e1];first |exact zz5d.to |exact hL.to,by rw[e2];first |exact zz5d.to |exact hM.to,hz⟩,(show 2 - (0+1) < 2 - 0 by decide)⟩
    simp(disch:=omega) only[go_sem,ξ,ζ,aJ]
    all_goals rfl
  ·have lz:=lU lX0 ld0 (by decide)
   have hz:inn X y1 y2 O (1+1)=stp o (X.mul y2):=by rw[←hacc];rfl
   have e1:=tJ (z:=X.mul y2) hpt.2.2
   have e2:=qW (z:=X.mul y2) hpt.2.2
   have hpt':=ja (z:=X.mul y2) hpt lz
   have kT:=fun {h} [Le h4 h]=>mw (h:=h) (eX.to (h':=h4)) (ed.to (h':=h4)) lX ld
   generalize X.mul y2=z at*
   have lz':=Pt.up (m:=2^30) lz (by decide)
   have lL:=Pt.up (m:=2^30) (wz hpt) (by decide)
   have lM:=Pt.up (m:=2^30) (tI hpt) (by decide)
   cases b1:z.bef (rlow o)<;>cases b2:(rhigh o).bef z<;>
   ·rw[b1] at e1
    rw[b2] at e2
    dsimp only[cond_true,cond_false] at e1 e2
    repeat (first |(refine wo rfl (fun k hk=>?_);simp(disch:=omega) only[go_sem,ξ,ζ,Nat.reduceMul,Nat.zero_mul,Nat.zero_add,Int.toNat_one,qBm];apply hk;clear hk k) |refine wkt rfl ?_ |refine wk0 ?_ |refine rg rfl rfl (fun K hK=>?_) |((first |refine ae ?_ |refine ac ?_);simp(disch:=decide) only[qs,qb,if_true,if_false,reduceIte]) |refine ah rfl (fun K hK=>?_) |refine ct rfl ?_ |((try simp(disch:=omega) only[go_sem,ξ,ζ]);(first |apply hK |(clear hK;apply hK) |(clear hK;clear hK;apply hK));clear hK;(try clear K);(try dsimp only[ag,qs,qb])))
    refine cN rfl rfl rfl rfl (by exact kT) ?_;rintro w5 h5 s5 zz5;obtain⟨f1,f2,f3,f4,f5,f6,f7,rfl,zz5c⟩:=zz5.sa
    repeat (first |(refine wo rfl (fun k hk=>?_);simp(disch:=omega) only[go_sem,ξ,ζ,Nat.reduceMul,Nat.zero_mul,Nat.zero_add,Int.toNat_one,qBm];apply hk;clear hk k) |refine wkt rfl ?_ |refine wk0 ?_ |((first |refine rg rfl rfl (fun K hK=>?_));(repeat (first |(refine wo rfl (fun k hk=>?_);simp(disch:=omega) only[go_sem,ξ,ζ,Nat.reduceMul,Nat.zero_mul,Nat.zero_add,Int.toNat_one,qBm];apply hk;clear hk k) |refine wkt rfl ?_ |refine wk0 ?_));(first |apply hK |(clear hK;apply hK) |(clear hK;clear hK;apply hK));clear hK;(try clear K);(try dsimp only[ag,qs,qb])) |((first |refine ae ?_ |refine ac ?_);simp(disch:=decide) only[qs,qb,if_true,if_false,reduceIte]) |refine ah rfl (fun K hK=>?_) |refine ct rfl ?_ |((try simp(disch:=omega) only[go_sem,ξ,ζ]);(first |apply hK |(clear hK;apply hK) |(clear hK;clear hK;apply hK));clear hK;(try clear K);(try dsimp only[ag,qs,qb])))
    have zz5d:RePt h5 (.agg #[.int .i64 z.side,.bool f1,.slice f2 f3 f4,.slice f5 f6 f7]) z:=⟨_,_,_,rfl,zz5c⟩
    have kP:=fun {h} [Le h5 h]=>ji (h:=h) zz5d (hL.to (h':=h5)) lz' lL
    have kQ:=fun {h} [Le h5 h]=>ji (h:=h) (hM.to (h':=h5)) zz5d lM lz'
    rw[b1] at kP
    rw[b2] at kQ
    refine rg rfl rfl (fun K hK=>?_);(repeat (first |(refine wo rfl (fun k hk=>?_);simp(disch:=omega) only[go_sem,ξ,ζ];apply hk;clear hk k) |refine wkt rfl ?_));(try refine wk0 ?_)
    refine cN rfl rfl rfl rfl (by exact kP) ?_;rintro w6 h6 s6 rfl
    repeat (first |(refine wo rfl (fun k hk=>?_);simp(disch:=omega) only[go_sem,ξ,ζ,Nat.reduceMul,Nat.zero_mul,Nat.zero_add,Int.toNat_one,qBm];apply hk;clear hk k) |refine wkt rfl ?_ |refine wk0 ?_ |refine rg rfl rfl (fun K hK=>?_) |((first |refine ae ?_ |refine ac ?_);simp(disch:=decide) only[qs,qb,if_true,if_false,reduceIte]) |refine ah rfl (fun K hK=>?_) |refine ct rfl ?_ |((try simp(disch:=omega) only[go_sem,ξ,ζ]);(first |apply hK |(clear hK;apply hK) |(clear hK;clear hK;apply hK));clear hK;(try clear K);(try dsimp only[ag,qs,qb])))
    refine cN rfl rfl rfl rfl (by exact kQ) ?_;rintro w7 h7 s7 rfl
    repeat (first |(refine wo rfl (fun k hk=>?_);simp(disch:=omega) only[go_sem,ξ,ζ,Nat.reduceMul,Nat.zero_mul,Nat.zero_add,Int.toNat_one,qBm];apply hk;clear hk k) |refine wkt rfl ?_ |refine wk0 ?_ |refine rg rfl rfl (fun K hK=>?_) |((first |refine ae ?_ |refine ac ?_);simp(disch:=decide) only[qs,qb,if_true,if_false,reduceIte]) |refine ah rfl (fun K hK=>?_) |refine ct rfl ?_ |((try simp(disch:=omega) only[go_sem,ξ,ζ]);(first |apply hK |(clear hK;apply hK) |(clear hK;clear hK;apply hK));clear hK;(try clear K);(try dsimp only[ag,qs,qb])))
    refine⟨(1+1,_,_),[0,1,2,3,4,5],?_,⟨inferInstance,(show 1+1≤2 by decide),_,hpt',by rw[e1];first |exact zz5d.to |exact hL.to,by rw[e2];first |exact zz5d.to |exact hM.to,hz⟩,(show 2 - (1+1) < 2 - 1 by decide)⟩
    simp(disch:=omega) only[go_sem,ξ,ζ,aJ]
    all_goals rfl
 ·repeat (first |(refine wo rfl (fun k hk=>?_);simp(disch:=omega) only[go_sem,ξ,ζ,Nat.reduceMul,Nat.zero_mul,Nat.zero_add,Int.toNat_one,qBm];apply hk;clear hk k) |refine wkt rfl ?_ |refine wk0 ?_ |refine rg rfl rfl (fun K hK=>?_) |((first |refine ae ?_ |refine ac ?_);simp(disch:=decide) only[qs,qb,if_true,if_false,reduceIte]) |refine ah rfl (fun K hK=>?_) |refine ct rfl ?_ |((try simp(disch:=omega) only[go_sem,ξ,ζ]);(first |apply hK |(clear hK;apply hK) |(clear hK;clear hK;apply hK));clear hK;(try clear K);(try dsimp only[ag,qs,qb])))
  refine cN rfl rfl rfl rfl (by exact kB) ?_;rintro w3 h3 s3 zz3;obtain⟨r1,r2,r3,r4,r5,r6,r7,t1,t2,t3,t4,t5,t6,t7,rfl,ec,ed⟩:=zz3
  repeat (first |(refine wo rfl (fun k hk=>?_);simp(disch:=omega) only[go_sem,ξ,ζ,Nat.reduceMul,Nat.zero_mul,Nat.zero_add,Int.toNat_one,qBm];apply hk;clear hk k) |refine wkt rfl ?_ |refine wk0 ?_ |((first |refine rg rfl rfl (fun K hK=>?_));(repeat (first |(refine wo rfl (fun k hk=>?_);simp(disch:=omega) only[go_sem,ξ,ζ,Nat.reduceMul,Nat.zero_mul,Nat.zero_add,Int.toNat_one,qBm];apply hk;clear hk k) |refine wkt rfl ?_ |refine wk0 ?_));(first |apply hK |(clear hK;apply hK) |(clear hK;clear hK;apply hK));clear hK;(try clear K);(try dsimp only[ag,qs,qb])) |((first |refine ae ?_ |refine ac ?_);simp(disch:=decide) only[qs,qb,if_true,if_false,reduceIte]) |refine ah rfl (fun K hK=>?_) |refine ct rfl ?_ |((try simp(disch:=omega) only[go_sem,ξ,ζ]);(first |apply hK |(clear hK;apply hK) |(clear hK;clear hK;apply hK));clear hK;(try clear K);(try dsimp only[ag,qs,qb])))
  have eX:=eb.to (h':=h3)
  have hO:outer x1 x2 y1 y2 (1+1)=inn x2 y1 y2 o 2:=by rw[←hacc];rfl
  have lX:x2.le (2^30):=lb
  have lX0:x2.le 2048:=lb0
  clear hacc
  generalize hOO:o=O at hO
  refine eO (fun x:Nat×List Value×List Value=>⟨[(3,.p 1 0),(4,.p 2 0),(5,.p 3 0),(6,.p 4 0),(8,.p 5 0),(23,.v (.agg #[.int .i64 x1.side,.bool p1,.slice p2 p3 p4,.slice p5 p6 p7,.int .i64 x2.side,.bool q1,.slice q2 q3 q4,.slice q5 q6 q7])),(24,.v (.int .i64 1)),(28,.v (.agg #[.int .i64 y1.side,.bool r1,.slice r2 r3 r4,.slice r5 r6 r7,.int .i64 y2.side,.bool t1,.slice t2 t3 t4,.slice t5 t6 t7])),(29,.v (.int .i64 x.1))],[[.bool b1,.slice a1 m1 c1,.slice a2 m2 c2,.bool b2,.slice a3 m3 c3,.slice a4 m4 c4,.bool a.isNone,.bool b.isNone,.bool false],[.bool b1',.slice a1' m1' c1',.slice a2' m2' c2',.bool b2',.slice a3' m3' c3',.slice a4' m4' c4',.bool c.isNone,.bool d.isNone,.bool false],[.bool false,.slice none 0 0,.slice none 0 0,.bool false,.slice none 0 0,.slice none 0 0,.bool false,.bool false,.bool false],x.2.1,x.2.2,[.int .i64 x2.side,.bool q1,.slice q2 q3 q4,.slice q5 q6 q7]]⟩)
   (fun x h'=>Le h3 h'∧x.1≤2∧∃o,NS.pts 4096 o∧RePt h' (.agg x.2.1.toArray) (rlow o)∧RePt h' (.agg x.2.2.toArray) (rhigh o)∧inn x2 y1 y2 O x.1=o)
   (fun x=>2 - x.1) (0,_,_) [0,1,2,3,4,5] ?_ ⟨inferInstance,(show 0≤2 by decide),o,hpt,hL.to (h':=h3),hM.to (h':=h3),hOO.symm⟩ ?_
  ·simp(disch:=omega) only[go_sem,ξ,ζ,aJ]
   subst hOO
   exact⟨.inr rfl,.inr rfl⟩
  clear hL hM hpt hOO o g1 g2 g3 g4 g5 g6 g7 k1 k2 k3 k4 k5 k6 k7
  rintro⟨j,cs,ds⟩ h4 ⟨le4,hj,o,hpt,hL,hM,hacc⟩
  dsimp only at*
  generalize hX:x2=X at*
  obtain⟨g1,g2,g3,g4,g5,g6,g7,rfl⟩:=hL.list
  obtain⟨k1,k2,k3,k4,k5,k6,k7,rfl⟩:=hM.list
  obtain rfl |rfl |rfl:j=2∨j=0∨j=1:=by omega
  ·repeat (first |(refine wo rfl (fun k hk=>?_);simp(disch:=omega) only[go_sem,ξ,ζ,Nat.reduceMul,Nat.zero_mul,Nat.zero_add,Int.toNat_one,qBm];apply hk;clear hk k) |refine wkt rfl ?_ |refine wk0 ?_ |refine rg rfl rfl (fun K hK=>?_) |((first |refine ae ?_ |refine ac ?_);simp(disch:=decide) only[qs,qb,if_true,if_false,reduceIte]) |refine ah rfl (fun K hK=>?_) |refine ct rfl ?_ |((try simp(disch:=omega) only[go_sem,ξ,ζ]);(first |apply hK |(clear hK;apply hK) |(clear hK;clear hK;apply hK));clear hK;(try clear K);(try dsimp only[ag,qs,qb])))
   refine⟨(1+1,_,_),[0,1,2,3,4],?_,⟨Le.tr le2 (Le.tr inferInstance le4),(show 1+1≤2 by decide),o,hpt,hL,hM,by rw[hO];exact hacc⟩,(show 2 - (1+1) < 2 - 1 by decide)⟩
   simp(disch:=omega) only[go_sem,ξ,ζ,aJ]
   all_goals rfl
  ·have lz:=lU lX0 lc0 (by decide)
   have hz:inn X y1 y2 O (0+1)=stp o (X.mul y1):=by rw[←hacc];rfl
   have e1:=tJ (z:=X.mul y1) hpt.2.2
   have e2:=qW (z:=X.mul y1) hpt.2.2
   have hpt':=ja (z:=X.mul y1) hpt lz
   have kT:=fun {h} [Le h4 h]=>mw (h:=h) (eX.to (h':=h4)) (ec.to (h':=h4)) lX lc
   generalize X.mul y1=z at*
   have lz':=Pt.up (m:=2^30) lz (by decide)
   have lL:=Pt.up (m:=2^30) (wz hpt) (by decide)
   have lM:=Pt.up (m:=2^30) (tI hpt) (by decide)
   cases b1:z.bef (rlow o)<;>cases b2:(rhigh o).bef z<;>
   ·rw[b1] at e1
    rw[b2] at e2
    dsimp only[cond_true,cond_false] at e1 e2
    repeat (first |(refine wo rfl (fun k hk=>?_);simp(disch:=omega) only[go_sem,ξ,ζ,Nat.reduceMul,Nat.zero_mul,Nat.zero_add,Int.toNat_one,qBm];apply hk;clear hk k) |refine wkt rfl ?_ |refine wk0 ?_ |refine rg rfl rfl (fun K hK=>?_) |((first |refine ae ?_ |refine ac ?_);simp(disch:=decide) only[qs,qb,if_true,if_false,reduceIte]) |refine ah rfl (fun K hK=>?_) |refine ct rfl ?_ |((try simp(disch:=omega) only[go_sem,ξ,ζ]);(first |apply hK |(clear hK;apply hK) |(clear hK;clear hK;apply hK));clear hK;(try clear K);(try dsimp only[ag,qs,qb])))
    refine cN rfl rfl rfl rfl (by exact kT) ?_;rintro w5 h5 s5 zz5;obtain⟨f1,f2,f3,f4,f5,f6,f7,rfl,zz5c⟩:=zz5.sa
    repeat (first |(refine wo rfl (fun k hk=>?_);simp(disch:=omega) only[go_sem,ξ,ζ,Nat.reduceMul,Nat.zero_mul,Nat.zero_add,Int.toNat_one,qBm];apply hk;clear hk k) |refine wkt rfl ?_ |refine wk0 ?_ |((first |refine rg rfl rfl (fun K hK=>?_));(repeat (first |(refine wo rfl (fun k hk=>?_);simp(disch:=omega) only[go_sem,ξ,ζ,Nat.reduceMul,Nat.zero_mul,Nat.zero_add,Int.toNat_one,qBm];apply hk;clear hk k) |refine wkt rfl ?_ |refine wk0 ?_));(first |apply hK |(clear hK;apply hK) |(clear hK;clear hK;apply hK));clear hK;(try clear K);(try dsimp only[ag,qs,qb])) |((first |refine ae ?_ |refine ac ?_);simp(disch:=decide) only[qs,qb,if_true,if_false,reduceIte]) |refine ah rfl (fun K hK=>?_) |refine ct rfl ?_ |((try simp(disch:=omega) only[go_sem,ξ,ζ]);(first |apply hK |(clear hK;apply hK) |(clear hK;clear hK;apply hK));clear hK;(try clear K);(try dsimp only[ag,qs,qb])))
    have zz5d:RePt h5 (.agg #[.int .i64 z.side,.bool f1,.slice f2 f3 f4,.slice f5 f6 f7]) z:=⟨_,_,_,rfl,zz5c⟩
    have kP:=fun {h} [Le h5 h]=>ji (h:=h) zz5d (hL.to (h':=h5)) lz' lL
    have kQ:=fun {h} [Le h5 h]=>ji (h:=h) (hM.to (h':=h5)) zz5d lM lz'
    rw[b1] at kP
    rw[b2] at kQ
    refine rg rfl rfl (fun K hK=>?_);(repeat (first |(refine wo rfl (fun k hk=>?_);simp(disch:=omega) only[go_sem,ξ,ζ];apply hk;clear hk k) |refine wkt rfl ?_));(try refine wk0 ?_)
    refine cN rfl rfl rfl rfl (by exact kP) ?_;rintro w6 h6 s6 rfl
    repeat (first |(refine wo rfl (fun k hk=>?_);simp(disch:=omega) only[go_sem,ξ,ζ,Nat.reduceMul,Nat.zero_mul,Nat.zero_add,Int.toNat_one,qBm];apply hk;clear hk k) |refine wkt rfl ?_ |refine wk0 ?_ |refine rg rfl rfl (fun K hK=>?_) |((first |refine ae ?_ |refine ac ?_);simp(disch:=decide) only[qs,qb,if_true,if_false,reduceIte]) |refine ah rfl (fun K hK=>?_) |refine ct rfl ?_ |((try simp(disch:=omega) only[go_sem,ξ,ζ]);(first |apply hK |(clear hK;apply hK) |(clear hK;clear hK;apply hK));clear hK;(try clear K);(try dsimp only[ag,qs,qb])))
    refine cN rfl rfl rfl rfl (by exact kQ) ?_;rintro w7 h7 s7 rfl
    repeat (first |(refine wo rfl (fun k hk=>?_);simp(disch:=omega) only[go_sem,ξ,ζ,Nat.reduceMul,Nat.zero_mul,Nat.zero_add,Int.toNat_one,qBm];apply hk;clear hk k) |refine wkt rfl ?_ |refine wk0 ?_ |refine rg rfl rfl (fun K hK=>?_) |((first |refine ae ?_ |refine ac ?_);simp(disch:=decide) only[qs,qb,if_true,if_false,reduceIte]) |refine ah rfl (fun K hK=>?_) |refine ct rfl ?_ |((try simp(disch:=omega) only[go_sem,ξ,ζ]);(first |apply hK |(clear hK;apply hK) |(clear hK;clear hK;apply hK));clear hK;(try clear K);(try dsimp only[ag,qs,qb])))
    refine⟨(0+1,_,_),[0,1,2,3,4,5],?_,⟨inferInstance,(show 0+1≤2 by decide),_,hpt',by rw[e1];first |exact zz5d.to |exact hL.to,by rw[e2];first |exact zz5d.to |exact hM.to,hz⟩,(show 2 - (0+1) < 2 - 0 by decide)⟩
    simp(disch:=omega) only[go_sem,ξ,ζ,aJ]
    all_goals rfl
  ·have lz:=lU lX0 ld0 (by decide)
   have hz:inn X y1 y2 O (1+1)=stp o (X.mul y2):=by rw[←hacc];rfl
   have e1:=tJ (z:=X.mul y2) hpt.2.2
   have e2:=qW (z:=X.mul y2) hpt.2.2
   have hpt':=ja (z:=X.mul y2) hpt lz
   have kT:=fun {h} [Le h4 h]=>mw (h:=h) (eX.to (h':=h4)) (ed.to (h':=h4)) lX ld
   generalize X.mul y2=z at*
   have lz':=Pt.up (m:=2^30) lz (by decide)
   have lL:=Pt.up (m:=2^30) (wz hpt) (by decide)
   have lM:=Pt.up (m:=2^30) (tI hpt) (by decide)
   cases b1:z.bef (rlow o)<;>cases b2:(rhigh o).bef z<;>
   ·rw[b1] at e1
    rw[b2] at e2
    dsimp only[cond_true,cond_false] at e1 e2
    repeat (first |(refine wo rfl (fun k hk=>?_);simp(disch:=omega) only[go_sem,ξ,ζ,Nat.reduceMul,Nat.zero_mul,Nat.zero_add,Int.toNat_one,qBm];apply hk;clear hk k) |refine wkt rfl ?_ |refine wk0 ?_ |refine rg rfl rfl (fun K hK=>?_) |((first |refine ae ?_ |refine ac ?_);simp(disch:=decide) only[qs,qb,if_true,if_false,reduceIte]) |refine ah rfl (fun K hK=>?_) |refine ct rfl ?_ |((try simp(disch:=omega) only[go_sem,ξ,ζ]);(first |apply hK |(clear hK;apply hK) |(clear hK;clear hK;apply hK));clear hK;(try clear K);(try dsimp only[ag,qs,qb])))
    refine cN rfl rfl rfl rfl (by exact kT) ?_;rintro w5 h5 s5 zz5;obtain⟨f1,f2,f3,f4,f5,f6,f7,rfl,zz5c⟩:=zz5.sa
    repeat (first |(refine wo rfl (fun k hk=>?_);simp(disch:=omega) only[go_sem,ξ,ζ,Nat.reduceMul,Nat.zero_mul,Nat.zero_add,Int.toNat_one,qBm];apply hk;clear hk k) |refine wkt rfl ?_ |refine wk0 ?_ |((first |refine rg rfl rfl (fun K hK=>?_));(repeat (first |(refine wo rfl (fun k hk=>?_);simp(disch:=omega) only[go_sem,ξ,ζ,Nat.reduceMul,Nat.zero_mul,Nat.zero_add,Int.toNat_one,qBm];apply hk;clear hk k) |refine wkt rfl ?_ |refine wk0 ?_));(first |apply hK |(clear hK;apply hK) |(clear hK;clear hK;apply hK));clear hK;(try clear K);(try dsimp only[ag,qs,qb])) |((first |refine ae ?_ |refine ac ?_);simp(disch:=decide) only[qs,qb,if_true,if_false,reduceIte]) |refine ah rfl (fun K hK=>?_) |refine ct rfl ?_ |((try simp(disch:=omega) only[go_sem,ξ,ζ]);(first |apply hK |(clear hK;apply hK) |(clear hK;clear hK;apply hK));clear hK;(try clear K);(try dsimp only[ag,qs,qb])))
    have zz5d:RePt h5 (.agg #[.int .i64 z.side,.bool f1,.slice f2 f3 f4,.slice f5 f6 f7]) z:=⟨_,_,_,rfl,zz5c⟩
    have kP:=fun {h} [Le h5 h]=>ji (h:=h) zz5d (hL.to (h':=h5)) lz' lL
    have kQ:=fun {h} [Le h5 h]=>ji (h:=h) (hM.to (h':=h5)) zz5d lM lz'
    rw[b1] at kP
    rw[b2] at kQ
    refine rg rfl rfl (fun K hK=>?_);(repeat (first |(refine wo rfl (fun k hk=>?_);simp(disch:=omega) only[go_sem,ξ,ζ];apply hk;clear hk k) |refine wkt rfl ?_));(try refine wk0 ?_)
    refine cN rfl rfl rfl rfl (by exact kP) ?_;rintro w6 h6 s6 rfl
    repeat (first |(refine wo rfl (fun k hk=>?_);simp(disch:=omega) only[go_sem,ξ,ζ,Nat.reduceMul,Nat.zero_mul,Nat.zero_add,Int.toNat_one,qBm];apply hk;clear hk k) |refine wkt rfl ?_ |refine wk0 ?_ |refine rg rfl rfl (fun K hK=>?_) |((first |refine ae ?_ |refine ac ?_);simp(disch:=decide) only[qs,qb,if_true,if_false,reduceIte]) |refine ah rfl (fun K hK=>?_) |refine ct rfl ?_ |((try simp(disch:=omega) only[go_sem,ξ,ζ]);(first |apply hK |(clear hK;apply hK) |(clear hK;clear hK;apply hK));clear hK;(try clear K);(try dsimp only[ag,qs,qb])))
    refine cN rfl rfl rfl rfl (by exact kQ) ?_;rintro w7 h7 s7 rfl
    repeat (first |(refine wo rfl (fun k hk=>?_);simp(disch:=omega) only[go_sem,ξ,ζ,Nat.reduceMul,Nat.zero_mul,Nat.zero_add,Int.toNat_one,qBm];apply hk;clear hk k) |refine wkt rfl ?_ |refine wk0 ?_ |refine rg rfl rfl (fun K hK=>?_) |((first |refine ae ?_ |refine ac ?_);simp(disch:=decide) only[qs,qb,if_true,if_false,reduceIte]) |refine ah rfl (fun K hK=>?_) |refine ct rfl ?_ |((try simp(disch:=omega) only[go_sem,ξ,ζ]);(first |apply hK |(clear hK;apply hK) |(clear hK;clear hK;apply hK));clear hK;(try clear K);(try dsimp only[ag,qs,qb])))
    refine⟨(1+1,_,_),[0,1,2,3,4,5],?_,⟨inferInstance,(show 1+1≤2 by decide),_,hpt',by rw[e1];first |exact zz5d.to |exact hL.to,by rw[e2];first |exact zz5d.to |exact hM.to,hz⟩,(show 2 - (1+1) < 2 - 1 by decide)⟩
    simp(disch:=omega) only[go_sem,ξ,ζ,aJ]
    all_goals rfl
theorem CN {h0 h:PH} [Le h0 h] {v w:Value} {x y:NS} (hv:Rr h0 v x) (hw:Rr h0 w y) (lx:x.le 2048) (ly:y.le 2048):
  Spec mach 137 #[v,w] h (fun v h'=>Rr h' v (x.prod y)) NP:=by
 cases x with
 | i a b=>cases y with
  |i c d=>exact EM hv hw lx ly
  | e=>
   show Spec _ _ _ _ (fun v h'=>Rr h' v .e) _
   obtain⟨_,_,_,_,_,_,_,_,_,_,_,_,_,_,rfl,_,_⟩:=hv.sa
   obtain⟨_,_,_,_,_,_,_,_,_,_,_,_,_,_,rfl,_,_⟩:=hw.sa
   dsimp only[NS.void]
   refine Spec.enter (args:=[_,_]) (n:=65) Tryz.func137 rfl (by kernel_rfl) rfl (by simp) [.cell 4 75] rfl (fun C _=>?_)
   repeat (first |(refine wo rfl (fun k hk=>?_);simp(disch:=omega) only[go_sem,ξ,ζ,Nat.reduceMul,Nat.zero_mul,Nat.zero_add,Int.toNat_one,qBm];apply hk;clear hk k) |refine wkt rfl ?_ |refine wk0 ?_ |refine rg rfl rfl (fun K hK=>?_) |((first |refine ae ?_ |refine ac ?_);simp(disch:=decide) only[qs,qb,if_true,if_false,reduceIte]) |refine ah rfl (fun K hK=>?_) |refine ct rfl ?_ |((try simp(disch:=omega) only[go_sem,ξ,ζ]);(first |apply hK |(clear hK;apply hK) |(clear hK;clear hK;apply hK));clear hK;(try clear K);(try dsimp only[ag,qs,qb])))
   refine cN rfl rfl rfl rfl (by exact i6) ?_;rintro v1 h1 st_h1 f1;obtain⟨v1_0,v1_1,v1_2,v1_3,v1_4,v1_5,v1_6,v1_7,v1_8,v1_9,v1_10,v1_11,v1_12,v1_13,rfl,f1⟩:=f1.sa
   repeat (first |(refine wo rfl (fun k hk=>?_);simp(disch:=omega) only[go_sem,ξ,ζ,Nat.reduceMul,Nat.zero_mul,Nat.zero_add,Int.toNat_one,qBm];apply hk;clear hk k) |refine wkt rfl ?_ |refine wk0 ?_ |refine rg rfl rfl (fun K hK=>?_) |((first |refine ae ?_ |refine ac ?_);simp(disch:=decide) only[qs,qb,if_true,if_false,reduceIte]) |refine ah rfl (fun K hK=>?_) |refine ct rfl ?_ |((try simp(disch:=omega) only[go_sem,ξ,ζ]);(first |apply hK |(clear hK;apply hK) |(clear hK;clear hK;apply hK));clear hK;(try clear K);(try dsimp only[ag,qs,qb])))
   refine ai ?_;simp(disch:=omega) only[go_sem,ξ,ζ]
   exact f1
 | e=>
  have e0:NS.e.prod y=.e:=by cases y<;>rfl
  rw[e0]
  obtain⟨_,_,_,_,_,_,_,_,_,_,_,_,_,_,rfl,_,_⟩:=hv.sa
  obtain⟨_,_,_,_,_,_,_,_,_,_,_,_,_,_,rfl,_,_⟩:=hw.sa
  dsimp only[NS.void]
  refine Spec.enter (args:=[_,_]) (n:=65) Tryz.func137 rfl (by kernel_rfl) rfl (by simp) [.cell 4 75] rfl (fun C _=>?_)
  repeat (first |(refine wo rfl (fun k hk=>?_);simp(disch:=omega) only[go_sem,ξ,ζ,Nat.reduceMul,Nat.zero_mul,Nat.zero_add,Int.toNat_one,qBm];apply hk;clear hk k) |refine wkt rfl ?_ |refine wk0 ?_ |refine rg rfl rfl (fun K hK=>?_) |((first |refine ae ?_ |refine ac ?_);simp(disch:=decide) only[qs,qb,if_true,if_false,reduceIte]) |refine ah rfl (fun K hK=>?_) |refine ct rfl ?_ |((try simp(disch:=omega) only[go_sem,ξ,ζ]);(first |apply hK |(clear hK;apply hK) |(clear hK;clear hK;apply hK));clear hK;(try clear K);(try dsimp only[ag,qs,qb])))
  refine cN rfl rfl rfl rfl (by exact i6) ?_;rintro v1 h1 st_h1 f1;obtain⟨v1_0,v1_1,v1_2,v1_3,v1_4,v1_5,v1_6,v1_7,v1_8,v1_9,v1_10,v1_11,v1_12,v1_13,rfl,f1⟩:=f1.sa
  repeat (first |(refine wo rfl (fun k hk=>?_);simp(disch:=omega) only[go_sem,ξ,ζ,Nat.reduceMul,Nat.zero_mul,Nat.zero_add,Int.toNat_one,qBm];apply hk;clear hk k) |refine wkt rfl ?_ |refine wk0 ?_ |refine rg rfl rfl (fun K hK=>?_) |((first |refine ae ?_ |refine ac ?_);simp(disch:=decide) only[qs,qb,if_true,if_false,reduceIte]) |refine ah rfl (fun K hK=>?_) |refine ct rfl ?_ |((try simp(disch:=omega) only[go_sem,ξ,ζ]);(first |apply hK |(clear hK;apply hK) |(clear hK;clear hK;apply hK));clear hK;(try clear K);(try dsimp only[ag,qs,qb])))
  refine ai ?_;simp(disch:=omega) only[go_sem,ξ,ζ]
  exact f1
theorem Gp {h0 h:PH} [Le h0 h] {v w:Value} {x y:NS} (hv:Rr h0 v x) (hw:Rr h0 w y) (lx:x.le (2^30)) (ly:y.le (2^30)):Spec mach 140 #[v,w] h (fun r h'=>Rr h' r (x.sum y)) NP:=by
 rw[NS.le_ends (by decide)] at lx ly
 obtain⟨_,_,_,_,_,_,_,_,_,_,_,_,_,_,rfl,t1,t2⟩:=hv.sa
 obtain⟨_,_,_,_,_,_,_,_,_,_,_,_,_,_,rfl,t3,t4⟩:=hw.sa
 cases x with
 | e=>
  dsimp only[NS.void]
  refine Spec.enter (args:=[_,_]) (n:=45) Tryz.func140 rfl (by kernel_rfl) rfl (by simp) [.cell 4 75] rfl (fun C _=>?_)
  repeat (first |(refine wo rfl (fun k hk=>?_);simp(disch:=omega) only[go_sem,ξ,ζ];apply hk;clear hk k) |refine wkt rfl ?_ |refine wk0 ?_ |refine rg rfl rfl (fun K hK=>?_) |((first |refine ae ?_ |refine ac ?_);simp(disch:=decide) only[qs,qb,if_true,if_false,reduceIte]) |refine ah rfl (fun K hK=>?_) |refine ct rfl ?_ |((try simp(disch:=omega) only[go_sem,ξ,ζ]);(first |apply hK |(clear hK;apply hK) |(clear hK;clear hK;apply hK));clear hK;(try clear K);(try dsimp only[ag,qs,qb])))
  refine cN rfl rfl rfl rfl (by exact i6) ?_;rintro v1 h1 st_h1 f1;obtain⟨v1_0,v1_1,v1_2,v1_3,v1_4,v1_5,v1_6,v1_7,v1_8,v1_9,v1_10,v1_11,v1_12,v1_13,rfl,f1⟩:=f1.sa
  repeat (first |(refine wo rfl (fun k hk=>?_);simp(disch:=omega) only[go_sem,ξ,ζ];apply hk;clear hk k) |refine wkt rfl ?_ |refine wk0 ?_ |refine rg rfl rfl (fun K hK=>?_) |((first |refine ae ?_ |refine ac ?_);simp(disch:=decide) only[qs,qb,if_true,if_false,reduceIte]) |refine ah rfl (fun K hK=>?_) |refine ct rfl ?_ |((try simp(disch:=omega) only[go_sem,ξ,ζ]);(first |apply hK |(clear hK;apply hK) |(clear hK;clear hK;apply hK));clear hK;(try clear K);(try dsimp only[ag,qs,qb])))
  refine ai ?_;simp(disch:=omega) only[go_sem,ξ,ζ]
  exact f1
 | i a b=>
  cases y with
  | e=>
   dsimp only[NS.void]
   refine Spec.enter (args:=[_,_]) (n:=45) Tryz.func140 rfl (by kernel_rfl) rfl (by simp) [.cell 4 75] rfl (fun C _=>?_)
   repeat (first |(refine wo rfl (fun k hk=>?_);simp(disch:=omega) only[go_sem,ξ,ζ];apply hk;clear hk k) |refine wkt rfl ?_ |refine wk0 ?_ |refine rg rfl rfl (fun K hK=>?_) |((first |refine ae ?_ |refine ac ?_);simp(disch:=decide) only[qs,qb,if_true,if_false,reduceIte]) |refine ah rfl (fun K hK=>?_) |refine ct rfl ?_ |((try simp(disch:=omega) only[go_sem,ξ,ζ]);(first |apply hK |(clear hK;apply hK) |(clear hK;clear hK;apply hK));clear hK;(try clear K);(try dsimp only[ag,qs,qb])))
   refine cN rfl rfl rfl rfl (by exact i6) ?_;rintro v1 h1 st_h1 f1;obtain⟨v1_0,v1_1,v1_2,v1_3,v1_4,v1_5,v1_6,v1_7,v1_8,v1_9,v1_10,v1_11,v1_12,v1_13,rfl,f1⟩:=f1.sa
   repeat (first |(refine wo rfl (fun k hk=>?_);simp(disch:=omega) only[go_sem,ξ,ζ];apply hk;clear hk k) |refine wkt rfl ?_ |refine wk0 ?_ |refine rg rfl rfl (fun K hK=>?_) |((first |refine ae ?_ |refine ac ?_);simp(disch:=decide) only[qs,qb,if_true,if_false,reduceIte]) |refine ah rfl (fun K hK=>?_) |refine ct rfl ?_ |((try simp(disch:=omega) only[go_sem,ξ,ζ]);(first |apply hK |(clear hK;apply hK) |(clear hK;clear hK;apply hK));clear hK;(try clear K);(try dsimp only[ag,qs,qb])))
   refine ai ?_;simp(disch:=omega) only[go_sem,ξ,ζ]
   exact f1
  | i c d=>
   have kl:=fun {h} [Le h0 h]=>aW (h:=h) t1 t3 (by omega) (by omega)
   have ku:=fun {h} [Le h0 h]=>aW (h:=h) t2 t4 (by omega) (by omega)
   cases a<;>cases c<;>cases b<;>cases d<;>
   ·dsimp only[NS.void,NS.loN,NS.hiN,NS.lo0,NS.hi0,Option.isNone,Option.getD] at*
    refine Spec.enter (args:=[_,_]) (n:=45) Tryz.func140 rfl (by kernel_rfl) rfl (by simp) [.cell 4 75] rfl (fun C _=>?_)
    repeat (first |(refine rg rfl rfl (fun K hK=>?_);(repeat (first |(refine wo rfl (fun k hk=>?_);simp(disch:=omega) only[go_sem,ξ,ζ];apply hk;clear hk k) |refine wkt rfl ?_));(try refine wk0 ?_);apply hK;clear hK K;(try dsimp only[ag,qs,qb])) |((first |refine ae ?_ |refine ac ?_);simp(disch:=decide) only[qs,qb,if_true,if_false,reduceIte]) |refine ah rfl (fun K hK=>?_) |refine ct rfl ?_ |((first |refine hK _ _ ?_ |(clear hK;refine hK _ _ ?_) |(clear hK;clear hK;refine hK _ _ ?_));clear hK;(try clear K)))
    try (refine rg rfl rfl (fun K hK=>?_);(repeat (first |(refine wo rfl (fun k hk=>?_);simp(disch:=omega) only[go_sem,ξ,ζ];apply hk;clear hk k) |refine wkt rfl ?_));(try refine wk0 ?_);refine cN rfl rfl rfl rfl (by exact kl) ?_;rintro v1 h1 _ f1;obtain⟨v1_0,v1_1,v1_2,v1_3,v1_4,v1_5,v1_6,rfl,f1⟩:=f1.sa;(repeat (first |(refine wo rfl (fun k hk=>?_);simp(disch:=omega) only[go_sem,ξ,ζ];apply hk;clear hk k) |refine wkt rfl ?_));(try refine wk0 ?_);(try (simp(disch:=omega) only[go_sem,ξ,ζ]));apply hK;clear hK;(try clear K);(try dsimp only[ag,qs]);repeat (first |(refine rg rfl rfl (fun K hK=>?_);(repeat (first |(refine wo rfl (fun k hk=>?_);simp(disch:=omega) only[go_sem,ξ,ζ];apply hk;clear hk k) |refine wkt rfl ?_));(try refine wk0 ?_);apply hK;clear hK K;(try dsimp only[ag,qs,qb])) |((first |refine ae ?_ |refine ac ?_);simp(disch:=decide) only[qs,qb,if_true,if_false,reduceIte]) |refine ah rfl (fun K hK=>?_) |refine ct rfl ?_ |((first |refine hK _ _ ?_ |(clear hK;refine hK _ _ ?_) |(clear hK;clear hK;refine hK _ _ ?_));clear hK;(try clear K))))
    try (refine rg rfl rfl (fun K hK=>?_);(repeat (first |(refine wo rfl (fun k hk=>?_);simp(disch:=omega) only[go_sem,ξ,ζ];apply hk;clear hk k) |refine wkt rfl ?_));(try refine wk0 ?_);refine cN rfl rfl rfl rfl (by exact ku) ?_;rintro v2 h2 _ f2;obtain⟨v2_0,v2_1,v2_2,v2_3,v2_4,v2_5,v2_6,rfl,f2⟩:=f2.sa;(repeat (first |(refine wo rfl (fun k hk=>?_);simp(disch:=omega) only[go_sem,ξ,ζ];apply hk;clear hk k) |refine wkt rfl ?_));(try refine wk0 ?_);(try (simp(disch:=omega) only[go_sem,ξ,ζ]));apply hK;clear hK;(try clear K);(try dsimp only[ag,qs]);repeat (first |(refine rg rfl rfl (fun K hK=>?_);(repeat (first |(refine wo rfl (fun k hk=>?_);simp(disch:=omega) only[go_sem,ξ,ζ];apply hk;clear hk k) |refine wkt rfl ?_));(try refine wk0 ?_);apply hK;clear hK K;(try dsimp only[ag,qs,qb])) |((first |refine ae ?_ |refine ac ?_);simp(disch:=decide) only[qs,qb,if_true,if_false,reduceIte]) |refine ah rfl (fun K hK=>?_) |refine ct rfl ?_ |((first |refine hK _ _ ?_ |(clear hK;refine hK _ _ ?_) |(clear hK;clear hK;refine hK _ _ ?_));clear hK;(try clear K))))
    refine ai ?_;simp(disch:=omega) only[go_sem,ξ,ζ]
    exact⟨_,_,_,_,_,_,rfl,by first |exact f1.to |exact Qr.none _,by first |exact f2.to |exact Qr.none _⟩
theorem FN {x y z:NS} {p:Int} (h:x.void=true∨y.void=true→z=.e):rnd p x y (.ok z)=Out.prec p (.ok (z.hull p.toNat)):=by
 unfold rnd
 cases hx:x.void with
 |true=>rw[h (.inl hx)];rfl
 | false=>
  cases hy:y.void with
  |true=>rw[h (.inr hy)];rfl
  |false=>rfl
theorem D5 {x y:NS} (h:x.void=true∨y.void=true):x.sum y=.e:=by
 cases x with
 |e=>rfl
 | i a b=>
  cases y with
  |e=>rfl
  |i c d=>rcases h with h |h<;>cases h
theorem Fw {x:NS}:x.minus.void=x.void:=by cases x<;>rfl
theorem RefSub {h0 h:PH} [Le h0 h] {v w:Value} {x y:RI} {p:Int} (hv:Iv h0 v x) (hw:Iv h0 w y):Spec mach 87 #[v,w,.int .i64 p] h (fun r h'=>Ir h' r (x.fin2 y (rnd p x.set y.set (.ok (x.set.sum y.set.minus))))) NP:=by
 have hv0:=hv
 have hw0:=hw
 rw[FN (fun k=>D5 (by rw[Fw];exact k))]
 obtain⟨a1,m1,c1,a2,m2,c2,a3,m3,c3,a4,m4,c4,rfl,_,_⟩:=hv.sa
 obtain⟨a1',m1',c1',a2',m2',c2',a3',m3',c3',a4',m4',c4',rfl,_,_⟩:=hw.sa
 unfold RI.fin2 Out.prec
 cases g:x.big || y.big with
 | true=>
  refine Spec.enter (args:=[_,_,_]) (n:=32) Tryz.func87 rfl (by kernel_rfl) rfl (by simp) [.cell 6 41,.tmp 7] rfl (fun C _=>?_)
  repeat (first |(refine wo rfl (fun k hk=>?_);simp(disch:=omega) only[go_sem,ξ,ζ];apply hk;clear hk k) |refine wkt rfl ?_ |refine wk0 ?_ |refine rg rfl rfl (fun K hK=>?_) |refine rd [.o 0,.o 1,.o 4,.o 2,.o 3,.o 5,.o 6,.o 7,.o 8,.o 9,.o 10] rfl (by decide+kernel) rfl (fun K hK=>?_) |((first |refine ae ?_ |refine ac ?_);simp(disch:=decide) only[qs,qb,if_true,if_false,reduceIte]) |refine ah rfl (fun K hK=>?_) |refine ct rfl ?_ |((try simp(disch:=omega) only[go_sem,ξ,ζ]);(first |apply hK |(clear hK;apply hK) |(clear hK;clear hK;apply hK));clear hK;(try clear K);(try dsimp only[ag,qs,qb])))
  refine cN rfl rfl rfl rfl (by exact gm hv0 hw0 g) ?_;rintro v1 h1 s1 q1;unfold zRI at q1;subst q1
  repeat (first |(refine wo rfl (fun k hk=>?_);simp(disch:=omega) only[go_sem,ξ,ζ];apply hk;clear hk k) |refine wkt rfl ?_ |refine wk0 ?_ |refine rg rfl rfl (fun K hK=>?_) |refine rd [.o 0,.o 1,.o 4,.o 2,.o 3,.o 5,.o 6,.o 7,.o 8,.o 9,.o 10] rfl (by decide+kernel) rfl (fun K hK=>?_) |((first |refine ae ?_ |refine ac ?_);simp(disch:=decide) only[qs,qb,if_true,if_false,reduceIte]) |refine ah rfl (fun K hK=>?_) |refine ct rfl ?_ |((try simp(disch:=omega) only[go_sem,ξ,ζ]);(first |apply hK |(clear hK;apply hK) |(clear hK;clear hK;apply hK));clear hK;(try clear K);(try dsimp only[ag,qs,qb])))
  refine ai ?_;simp(disch:=omega) only[go_sem,ξ,ζ]
  all_goals rfl
 | false=>
  obtain⟨g1,g2⟩:=Bool.or_eq_false_iff.1 g
  cases gp:bad p with
  | true=>
   refine Spec.enter (args:=[_,_,_]) (n:=32) Tryz.func87 rfl (by kernel_rfl) rfl (by simp) [.cell 6 41,.tmp 7] rfl (fun C _=>?_)
   repeat (first |(refine wo rfl (fun k hk=>?_);simp(disch:=omega) only[go_sem,ξ,ζ];apply hk;clear hk k) |refine wkt rfl ?_ |refine wk0 ?_ |refine rg rfl rfl (fun K hK=>?_) |refine rd [.o 0,.o 1,.o 4,.o 2,.o 3,.o 5,.o 6,.o 7,.o 8,.o 9,.o 10] rfl (by decide+kernel) rfl (fun K hK=>?_) |((first |refine ae ?_ |refine ac ?_);simp(disch:=decide) only[qs,qb,if_true,if_false,reduceIte]) |refine ah rfl (fun K hK=>?_) |refine ct rfl ?_ |((try simp(disch:=omega) only[go_sem,ξ,ζ]);(first |apply hK |(clear hK;apply hK) |(clear hK;clear hK;apply hK));clear hK;(try clear K);(try dsimp only[ag,qs,qb])))
   refine cN rfl rfl rfl rfl (by exact pb hv0 hw0 g1 g2 gp) ?_;rintro v1 h1 s1 q1;unfold zRI at q1;subst q1
   repeat (first |(refine wo rfl (fun k hk=>?_);simp(disch:=omega) only[go_sem,ξ,ζ];apply hk;clear hk k) |refine wkt rfl ?_ |refine wk0 ?_ |refine rg rfl rfl (fun K hK=>?_) |refine rd [.o 0,.o 1,.o 4,.o 2,.o 3,.o 5,.o 6,.o 7,.o 8,.o 9,.o 10] rfl (by decide+kernel) rfl (fun K hK=>?_) |((first |refine ae ?_ |refine ac ?_);simp(disch:=decide) only[qs,qb,if_true,if_false,reduceIte]) |refine ah rfl (fun K hK=>?_) |refine ct rfl ?_ |((try simp(disch:=omega) only[go_sem,ξ,ζ]);(first |apply hK |(clear hK;apply hK) |(clear hK;clear hK;apply hK));clear hK;(try clear K);(try dsimp only[ag,qs,qb])))
   refine ai ?_;simp(disch:=omega) only[go_sem,ξ,ζ]
   all_goals rfl
  | false=>
   simp only[cond_false]
   refine Spec.enter (args:=[_,_,_]) (n:=32) Tryz.func87 rfl (by kernel_rfl) rfl (by simp) [.cell 6 41,.tmp 7] rfl (fun C _=>?_)
   repeat (first |(refine wo rfl (fun k hk=>?_);simp(disch:=omega) only[go_sem,ξ,ζ];apply hk;clear hk k) |refine wkt rfl ?_ |refine wk0 ?_ |refine rg rfl rfl (fun K hK=>?_) |refine rd [.o 0,.o 1,.o 4,.o 2,.o 3,.o 5,.o 6,.o 7,.o 8,.o 9,.o 10] rfl (by decide+kernel) rfl (fun K hK=>?_) |((first |refine ae ?_ |refine ac ?_);simp(disch:=decide) only[qs,qb,if_true,if_false,reduceIte]) |refine ah rfl (fun K hK=>?_) |refine ct rfl ?_ |((try simp(disch:=omega) only[go_sem,ξ,ζ]);(first |apply hK |(clear hK;apply hK) |(clear hK;clear hK;apply hK));clear hK;(try clear K);(try dsimp only[ag,qs,qb])))
   refine cN rfl rfl rfl rfl (by exact iJ hv0 hw0 g1 g2 gp) ?_;rintro v1 h1 s1 q1;obtain⟨_,_,rfl,q2,q3⟩:=q1;have q2':=q2;have q3':=q3;obtain⟨_,_,_,_,_,_,_,_,_,_,_,_,_,_,rfl,_,_⟩:=q2.sa;obtain⟨_,_,_,_,_,_,_,_,_,_,_,_,_,_,rfl,_,_⟩:=q3.sa
   repeat (first |(refine wo rfl (fun k hk=>?_);simp(disch:=omega) only[go_sem,ξ,ζ];apply hk;clear hk k) |refine wkt rfl ?_ |refine wk0 ?_ |refine rg rfl rfl (fun K hK=>?_) |refine rd [.o 0,.o 1,.o 4,.o 2,.o 3,.o 5,.o 6,.o 7,.o 8,.o 9,.o 10] rfl (by decide+kernel) rfl (fun K hK=>?_) |((first |refine ae ?_ |refine ac ?_);simp(disch:=decide) only[qs,qb,if_true,if_false,reduceIte]) |refine ah rfl (fun K hK=>?_) |refine ct rfl ?_ |((try simp(disch:=omega) only[go_sem,ξ,ζ]);(first |apply hK |(clear hK;apply hK) |(clear hK;clear hK;apply hK));clear hK;(try clear K);(try dsimp only[ag,qs,qb])))
   refine cN rfl rfl rfl rfl (by exact jq q3') ?_;rintro v5 h5 st_h5 f5;obtain⟨v5_0,v5_1,v5_2,v5_3,v5_4,v5_5,v5_6,v5_7,v5_8,v5_9,v5_10,v5_11,v5_12,v5_13,rfl,f5⟩:=f5.sa;(repeat (first |(refine wo rfl (fun k hk=>?_);simp(disch:=omega) only[go_sem,ξ,ζ];apply hk;clear hk k) |refine wkt rfl ?_));(try refine wk0 ?_)
   refine cN rfl rfl rfl rfl (by exact Gp (q2'.to (h':=h5)) f5 (RI.le30 g1) (RI.le30 g2).minus) ?_;rintro v2 h2 st_h2 f2;obtain⟨v2_0,v2_1,v2_2,v2_3,v2_4,v2_5,v2_6,v2_7,v2_8,v2_9,v2_10,v2_11,v2_12,v2_13,rfl,f2⟩:=f2.sa;(repeat (first |(refine wo rfl (fun k hk=>?_);simp(disch:=omega) only[go_sem,ξ,ζ];apply hk;clear hk k) |refine wkt rfl ?_));(try refine wk0 ?_)
   refine cN rfl rfl rfl rfl (by exact jb f2 ((RI.le g1).sum (RI.le g2).minus) (jt gp)) ?_;rintro v3 h3 st_h3 f3;obtain⟨v3_0,v3_1,v3_2,v3_3,v3_4,v3_5,v3_6,v3_7,v3_8,v3_9,v3_10,v3_11,v3_12,v3_13,rfl,f3⟩:=f3.sa;(repeat (first |(refine wo rfl (fun k hk=>?_);simp(disch:=omega) only[go_sem,ξ,ζ];apply hk;clear hk k) |refine wkt rfl ?_));(try refine wk0 ?_)
   refine cN rfl rfl rfl rfl (by exact iI f3) ?_;rintro r4 h4 st_h4 hr4;obtain⟨r4_0,r4_1,r4_2,r4_3,r4_4,r4_5,r4_6,r4_7,r4_8,r4_9,r4_10,r4_11,r4_12,r4_13,r4_14,r4_15,r4_16,rfl,hr4⟩:=hr4.sa
   repeat (first |(refine wo rfl (fun k hk=>?_);simp(disch:=omega) only[go_sem,ξ,ζ];apply hk;clear hk k) |refine wkt rfl ?_ |refine wk0 ?_ |refine rg rfl rfl (fun K hK=>?_) |refine rd [.o 0,.o 1,.o 4,.o 2,.o 3,.o 5,.o 6,.o 7,.o 8,.o 9,.o 10] rfl (by decide+kernel) rfl (fun K hK=>?_) |((first |refine ae ?_ |refine ac ?_);simp(disch:=decide) only[qs,qb,if_true,if_false,reduceIte]) |refine ah rfl (fun K hK=>?_) |refine ct rfl ?_ |((try simp(disch:=omega) only[go_sem,ξ,ζ]);(first |apply hK |(clear hK;apply hK) |(clear hK;clear hK;apply hK));clear hK;(try clear K);(try dsimp only[ag,qs,qb])))
   refine ai ?_;simp(disch:=omega) only[go_sem,ξ,ζ]
   exact hr4
theorem RefIn {h0 h:PH} [Le h0 h] {v w:Value} {x:NS} {q:Rat} (hv:Rr h0 v x) (hw:Qr h0 w q) (hf:x.le (2^34)) (hq:sz q≤2^34):Spec mach 138 #[v,w] h (fun r _=>r=.bool (x.has q)) NP:=by
 rw[NS.le_ends (by decide)] at hf
 obtain⟨_,_,_,_,_,_,_,_,_,_,_,_,_,_,rfl,t1,t2⟩:=hv.sa
 obtain⟨_,_,_,_,_,_,_,rfl,t3⟩:=hw.sa
 cases x with
 | e=>
  dsimp only[NS.void]
  refine Spec.enter (args:=[_,_]) (n:=30) Tryz.func138 rfl (by kernel_rfl) rfl (by simp) [.tmp 4] rfl (fun C _=>?_)
  repeat (first |(refine wo rfl (fun k hk=>?_);simp(disch:=omega) only[go_sem,ξ,ζ];apply hk;clear hk k) |refine wkt rfl ?_ |refine wk0 ?_ |refine rg rfl rfl (fun K hK=>?_) |((first |refine ae ?_ |refine ac ?_);simp(disch:=decide) only[qs,qb,if_true,if_false,reduceIte]) |refine ah rfl (fun K hK=>?_) |refine ct rfl ?_ |((try simp(disch:=omega) only[go_sem,ξ,ζ]);(first |apply hK |(clear hK;apply hK) |(clear hK;clear hK;apply hK));clear hK;(try clear K);(try dsimp only[ag,qs,qb])))
  refine ai ?_;simp(disch:=omega) only[go_sem,ξ,ζ]
  all_goals rfl
 | i a b =>
  dsimp only[NS.void,NS.loN,NS.hiN,NS.lo0,NS.hi0] at*
  have k1:=fun {h} [Le h0 h]=>av (h:=h) t1 t3 hf.1 hq
  have k2:=fun {h} [Le h0 h]=>av (h:=h) t3 t2 hq hf.2
  cases a with
  | none=>
   cases b with
   | none=>
    dsimp only[Option.isNone,Option.getD] at*
    refine Spec.enter (args:=[_,_]) (n:=30) Tryz.func138 rfl (by kernel_rfl) rfl (by simp) [.tmp 4] rfl (fun C _=>?_)
    repeat (first |(refine wo rfl (fun k hk=>?_);simp(disch:=omega) only[go_sem,ξ,ζ];apply hk;clear hk k) |refine wkt rfl ?_ |refine wk0 ?_ |refine rg rfl rfl (fun K hK=>?_) |((first |refine ae ?_ |refine ac ?_);simp(disch:=decide) only[qs,qb,if_true,if_false,reduceIte]) |refine ah rfl (fun K hK=>?_) |refine ct rfl ?_ |((try simp(disch:=omega) only[go_sem,ξ,ζ]);(first |apply hK |(clear hK;apply hK) |(clear hK;clear hK;apply hK));clear hK;(try clear K);(try dsimp only[ag,qs,qb])))
    refine ai ?_;simp(disch:=omega) only[go_sem,ξ,ζ]
    all_goals rfl
   | some b=>
    dsimp only[Option.isNone,Option.getD] at*
    by_cases hb:b < q
    ·have e1:¬cmpQ q b≤0:=by unfold cmpQ;grind
     have e2:(NS.i none (some b)).has q=false:=by simp[NS.has,hb]
     rw[e2]
     refine Spec.enter (args:=[_,_]) (n:=30) Tryz.func138 rfl (by kernel_rfl) rfl (by simp) [.tmp 4] rfl (fun C _=>?_)
     repeat (first |(refine wo rfl (fun k hk=>?_);simp(disch:=omega) only[go_sem,ξ,ζ];apply hk;clear hk k) |refine wkt rfl ?_ |refine wk0 ?_ |refine rg rfl rfl (fun K hK=>?_) |((first |refine ae ?_ |refine ac ?_);simp(disch:=decide) only[qs,qb,if_true,if_false,reduceIte]) |refine ah rfl (fun K hK=>?_) |refine ct rfl ?_ |((try simp(disch:=omega) only[go_sem,ξ,ζ]);(first |apply hK |(clear hK;apply hK) |(clear hK;clear hK;apply hK));clear hK;(try clear K);(try dsimp only[ag,qs,qb])))
     refine cN rfl rfl rfl rfl (by exact k2) ?_;rintro v2 h2 s2 rfl;(repeat (first |(refine wo rfl (fun k hk=>?_);simp(disch:=omega) only[go_sem,ξ,ζ];apply hk;clear hk k) |refine wkt rfl ?_));(try refine wk0 ?_)
     (try (simp(disch:=omega) only[go_sem,ξ,ζ]));apply hK;clear hK;(try clear K);(try dsimp only[ag,qs])
     refine ai ?_;simp(disch:=omega) only[go_sem,ξ,ζ]
    ·have e1:cmpQ q b≤0:=by unfold cmpQ;grind
     have e2:(NS.i none (some b)).has q=true:=by simp[NS.has,hb]
     rw[e2]
     refine Spec.enter (args:=[_,_]) (n:=30) Tryz.func138 rfl (by kernel_rfl) rfl (by simp) [.tmp 4] rfl (fun C _=>?_)
     repeat (first |(refine wo rfl (fun k hk=>?_);simp(disch:=omega) only[go_sem,ξ,ζ];apply hk;clear hk k) |refine wkt rfl ?_ |refine wk0 ?_ |refine rg rfl rfl (fun K hK=>?_) |((first |refine ae ?_ |refine ac ?_);simp(disch:=decide) only[qs,qb,if_true,if_false,reduceIte]) |refine ah rfl (fun K hK=>?_) |refine ct rfl ?_ |((try simp(disch:=omega) only[go_sem,ξ,ζ]);(first |apply hK |(clear hK;apply hK) |(clear hK;clear hK;apply hK));clear hK;(try clear K);(try dsimp only[ag,qs,qb])))
     refine cN rfl rfl rfl rfl (by exact k2) ?_;rintro v2 h2 s2 rfl;(repeat (first |(refine wo rfl (fun k hk=>?_);simp(disch:=omega) only[go_sem,ξ,ζ];apply hk;clear hk k) |refine wkt rfl ?_));(try refine wk0 ?_)
     (try (simp(disch:=omega) only[go_sem,ξ,ζ]));apply hK;clear hK;(try clear K);(try dsimp only[ag,qs])
     refine ai ?_;simp(disch:=omega) only[go_sem,ξ,ζ]
  | some a=>
   by_cases ha:q < a
   ·have e1:¬cmpQ a q≤0:=by unfold cmpQ;grind
    have e2:(NS.i (some a) b).has q=false:=by simp[NS.has,ha]
    rw[e2]
    dsimp only[Option.isNone,Option.getD] at*
    refine Spec.enter (args:=[_,_]) (n:=30) Tryz.func138 rfl (by kernel_rfl) rfl (by simp) [.tmp 4] rfl (fun C _=>?_)
    repeat (first |(refine wo rfl (fun k hk=>?_);simp(disch:=omega) only[go_sem,ξ,ζ];apply hk;clear hk k) |refine wkt rfl ?_ |refine wk0 ?_ |refine rg rfl rfl (fun K hK=>?_) |((first |refine ae ?_ |refine ac ?_);simp(disch:=decide) only[qs,qb,if_true,if_false,reduceIte]) |refine ah rfl (fun K hK=>?_) |refine ct rfl ?_ |((try simp(disch:=omega) only[go_sem,ξ,ζ]);(first |apply hK |(clear hK;apply hK) |(clear hK;clear hK;apply hK));clear hK;(try clear K);(try dsimp only[ag,qs,qb])))
    refine cN rfl rfl rfl rfl (by exact k1) ?_;rintro v1 h1 s1 rfl;(repeat (first |(refine wo rfl (fun k hk=>?_);simp(disch:=omega) only[go_sem,ξ,ζ];apply hk;clear hk k) |refine wkt rfl ?_));(try refine wk0 ?_)
    (try (simp(disch:=omega) only[go_sem,ξ,ζ]));apply hK;clear hK;(try clear K);(try dsimp only[ag,qs])
    refine ai ?_;simp(disch:=omega) only[go_sem,ξ,ζ]
   ·have e1:cmpQ a q≤0:=by unfold cmpQ;grind
    cases b with
    | none=>
     have e2:(NS.i (some a) none).has q=true:=by simp[NS.has,ha]
     rw[e2]
     dsimp only[Option.isNone,Option.getD] at*
     refine Spec.enter (args:=[_,_]) (n:=30) Tryz.func138 rfl (by kernel_rfl) rfl (by simp) [.tmp 4] rfl (fun C _=>?_)
     repeat (first |(refine wo rfl (fun k hk=>?_);simp(disch:=omega) only[go_sem,ξ,ζ];apply hk;clear hk k) |refine wkt rfl ?_ |refine wk0 ?_ |refine rg rfl rfl (fun K hK=>?_) |((first |refine ae ?_ |refine ac ?_);simp(disch:=decide) only[qs,qb,if_true,if_false,reduceIte]) |refine ah rfl (fun K hK=>?_) |refine ct rfl ?_ |((try simp(disch:=omega) only[go_sem,ξ,ζ]);(first |apply hK |(clear hK;apply hK) |(clear hK;clear hK;apply hK));clear hK;(try clear K);(try dsimp only[ag,qs,qb])))
     refine cN rfl rfl rfl rfl (by exact k1) ?_;rintro v1 h1 s1 rfl;(repeat (first |(refine wo rfl (fun k hk=>?_);simp(disch:=omega) only[go_sem,ξ,ζ];apply hk;clear hk k) |refine wkt rfl ?_));(try refine wk0 ?_)
     (try (simp(disch:=omega) only[go_sem,ξ,ζ]));apply hK;clear hK;(try clear K);(try dsimp only[ag,qs])
     refine ai ?_;simp(disch:=omega) only[go_sem,ξ,ζ]
    | some b=>
     dsimp only[Option.isNone,Option.getD] at*
     by_cases hb:b < q
     ·have e3:¬cmpQ q b≤0:=by unfold cmpQ;grind
      have e2:(NS.i (some a) (some b)).has q=false:=by simp[NS.has,ha,hb]
      rw[e2]
      refine Spec.enter (args:=[_,_]) (n:=30) Tryz.func138 rfl (by kernel_rfl) rfl (by simp) [.tmp 4] rfl (fun C _=>?_)
      repeat (first |(refine wo rfl (fun k hk=>?_);simp(disch:=omega) only[go_sem,ξ,ζ];apply hk;clear hk k) |refine wkt rfl ?_ |refine wk0 ?_ |refine rg rfl rfl (fun K hK=>?_) |((first |refine ae ?_ |refine ac ?_);simp(disch:=decide) only[qs,qb,if_true,if_false,reduceIte]) |refine ah rfl (fun K hK=>?_) |refine ct rfl ?_ |((try simp(disch:=omega) only[go_sem,ξ,ζ]);(first |apply hK |(clear hK;apply hK) |(clear hK;clear hK;apply hK));clear hK;(try clear K);(try dsimp only[ag,qs,qb])))
      refine cN rfl rfl rfl rfl (by exact k1) ?_;rintro v1 h1 s1 rfl;(repeat (first |(refine wo rfl (fun k hk=>?_);simp(disch:=omega) only[go_sem,ξ,ζ];apply hk;clear hk k) |refine wkt rfl ?_));(try refine wk0 ?_)
      refine cN rfl rfl rfl rfl (by exact k2) ?_;rintro v2 h2 s2 rfl;(repeat (first |(refine wo rfl (fun k hk=>?_);simp(disch:=omega) only[go_sem,ξ,ζ];apply hk;clear hk k) |refine wkt rfl ?_));(try refine wk0 ?_)
      (try (simp(disch:=omega) only[go_sem,ξ,ζ]));apply hK;clear hK;(try clear K);(try dsimp only[ag,qs])
      refine ai ?_;simp(disch:=omega) only[go_sem,ξ,ζ]
     ·have e3:cmpQ q b≤0:=by unfold cmpQ;grind
      have e2:(NS.i (some a) (some b)).has q=true:=by simp[NS.has,ha,hb]
      rw[e2]
      refine Spec.enter (args:=[_,_]) (n:=30) Tryz.func138 rfl (by kernel_rfl) rfl (by simp) [.tmp 4] rfl (fun C _=>?_)
      repeat (first |(refine wo rfl (fun k hk=>?_);simp(disch:=omega) only[go_sem,ξ,ζ];apply hk;clear hk k) |refine wkt rfl ?_ |refine wk0 ?_ |refine rg rfl rfl (fun K hK=>?_) |((first |refine ae ?_ |refine ac ?_);simp(disch:=decide) only[qs,qb,if_true,if_false,reduceIte]) |refine ah rfl (fun K hK=>?_) |refine ct rfl ?_ |((try simp(disch:=omega) only[go_sem,ξ,ζ]);(first |apply hK |(clear hK;apply hK) |(clear hK;clear hK;apply hK));clear hK;(try clear K);(try dsimp only[ag,qs,qb])))
      refine cN rfl rfl rfl rfl (by exact k1) ?_;rintro v1 h1 s1 rfl;(repeat (first |(refine wo rfl (fun k hk=>?_);simp(disch:=omega) only[go_sem,ξ,ζ];apply hk;clear hk k) |refine wkt rfl ?_));(try refine wk0 ?_)
      refine cN rfl rfl rfl rfl (by exact k2) ?_;rintro v2 h2 s2 rfl;(repeat (first |(refine wo rfl (fun k hk=>?_);simp(disch:=omega) only[go_sem,ξ,ζ];apply hk;clear hk k) |refine wkt rfl ?_));(try refine wk0 ?_)
      (try (simp(disch:=omega) only[go_sem,ξ,ζ]));apply hK;clear hK;(try clear K);(try dsimp only[ag,qs])
      refine ai ?_;simp(disch:=omega) only[go_sem,ξ,ζ]
theorem Br.u {r r':Value} {o:Except Int Bool} (h:Br r o) (h':Br r' o):r'=r:=by
 cases o with
 |ok b=>cases(h:r=_);exact h'
 |error e=>cases(h:r=_);exact h'
end Go.Q
