/-
  Contracts of the reference's intervals, and what stands on it. Conditions: each theorem's own.
-/
import Derived.Test.YtgmcchhklbeckaaGreatDoorK3550acPkG
import Derived.Test.YtgmcchhklbeckaaGreatDoorK440114PkP
import Derived.Test.YtgmcchhklbeckaaGreatDoorKf2e869PkN
import Derived.Shelf.Abstract
import Derived.WalkKit
import Derived.OwnWalkIn
import Derived.TacticsInMore
import Derived.LoopNIn
import Derived.LoopIn
import Derived.Test.YtgmcchhklbeckaaGreatDoorKb801f5PkO
import Derived.Test.YtgmcchhklbeckaaGreatDoorKe6f7caPkA
import Derived.Test.YtgmcchhklbeckaaGreatDoorKf062ebPkI
set_option linter.unusedVariables false
set_option linter.unusedSimpArgs false
open Nat renaming reduceBEq→ξ,reduceAdd→ζ,le_trans→χ,zero_le→qBh,mod_eq_of_lt→qBi,lt_or_ge→qBj,one_mul→qBm
open Bool renaming false_eq_true→qAw
open List renaming all_eq_true→qBd
namespace Go.Q
open Go.Proofs
set_option maxRecDepth 100000
set_option maxHeartbeats 16000000
theorem RePt.list {h:PH} {cs:List Value} {z:Pt} (r:RePt h (.agg cs.toArray) z):∃g1 g2 g3 g4 g5 g6 g7,cs=[.int .i64 z.side,.bool g1,.slice g2 g3 g4,.slice g5 g6 g7]:=by
 obtain⟨_,_,_,_,_,_,_,e,_⟩:=r.sa
 simp only[Value.agg.injEq,Array.mk.injEq] at e
 exact⟨_,_,_,_,_,_,_,e⟩
theorem RePt.q {h:PH} {b:Bool} {a1 a2:Option Addr} {m1 c1 m2 c2:Nat} {k:Int} {z:Pt} (r:RePt h (.agg #[.int .i64 k,.bool b,.slice a1 m1 c1,.slice a2 m2 c2]) z):Qr h (.agg #[.bool b,.slice a1 m1 c1,.slice a2 m2 c2]) z.val:=by
 obtain⟨_,_,_,e,q⟩:=r
 simp only[Value.agg.injEq,Array.mk.injEq,List.cons.injEq,and_true,Value.bool.injEq] at e
 obtain⟨_,rfl,rfl,rfl⟩:=e
 exact q
theorem EM {h0 h:PH} [Le h0 h] {v w:Value} {a b c d:Option Rat} (hs:Rr h0 v (.i a b)) (ht:Rr h0 w (.i c d)) (ls:(NS.i a b).le 2048) (lt:(NS.i c d).le 2048):
  Spec mach 216 #[v,w] h (fun v h'=>Rr h' v ((NS.i a b).prod (.i c d))) NP:=by
 rw[NS.le_i] at ls lt
 have la0:=qR ls.1
 have lb0:=og ls.2
 have lc0:=qR lt.1
 have ld0:=og lt.2
 have la:=Pt.up (m:=2^30) la0 (by decide)
 have lb:=Pt.up (m:=2^30) lb0 (by decide)
 have lc:=Pt.up (m:=2^30) lc0 (by decide)
 have ld:=Pt.up (m:=2^30) ld0 (by decide)
 have kA:=fun {h} [Le h0 h]=>Gn (h:=h) hs
 have kB:=fun {h} [Le h0 h]=>Gn (h:=h) ht
 have he:=wr (a:=a) (b:=b) (c:=c) (d:=d)
 obtain⟨b1,a1,m1,c1,a2,m2,c2,b2,a3,m3,c3,a4,m4,c4,rfl,_,_⟩:=hs.sa
 obtain⟨b1',a1',m1',c1',a2',m2',c2',b2',a3',m3',c3',a4',m4',c4',rfl,_,_⟩:=ht.sa
 show Spec _ _ _ _ (fun v h'=>Rr h' v (fin3 (outer (lowP a) (highP b) (lowP c) (highP d) 2))) _
 generalize lowP a=x1 at*
 generalize highP b=x2 at*
 generalize lowP c=y1 at*
 generalize highP d=y2 at*
 dsimp only[NS.void,NS.loN,NS.hiN] at*
 refine Spec.enter (args:=[_,_]) (n:=65) Tryz.func216 rfl (by kernel_rfl) rfl (by simp) [.cell 4 77] rfl (fun C _=>?_)
 repeat (first |(refine wo rfl (fun k hk=>?_);simp(disch:=omega) only[go_sem,ξ,ζ,Nat.reduceMul,Nat.zero_mul,Nat.zero_add,Int.toNat_one,qBm];apply hk;clear hk k) |refine wkt rfl ?_ |refine wk0 ?_ |refine rg rfl rfl (fun K hK=>?_) |((first |refine ae ?_ |refine ac ?_);simp(disch:=decide) only[qs,qb,if_true,if_false,reduceIte]) |refine ah rfl (fun K hK=>?_) |refine ct rfl ?_ |((try simp(disch:=omega) only[go_sem,ξ,ζ]);(first |apply hK |(clear hK;apply hK) |(clear hK;clear hK;apply hK));clear hK;(try clear K);(try dsimp only[ag,qs,qb])))
 refine cN rfl rfl rfl rfl (by exact kA) ?_;rintro w1 h1 s1 zz1;obtain⟨p1,p2,p3,p4,p5,p6,p7,q1,q2,q3,q4,q5,q6,q7,rfl,ea,eb⟩:=zz1
 repeat (first |(refine wo rfl (fun k hk=>?_);simp(disch:=omega) only[go_sem,ξ,ζ,Nat.reduceMul,Nat.zero_mul,Nat.zero_add,Int.toNat_one,qBm];apply hk;clear hk k) |refine wkt rfl ?_ |refine wk0 ?_ |refine rg rfl rfl (fun K hK=>?_) |((first |refine ae ?_ |refine ac ?_);simp(disch:=decide) only[qs,qb,if_true,if_false,reduceIte]) |refine ah rfl (fun K hK=>?_) |refine ct rfl ?_ |((try simp(disch:=omega) only[go_sem,ξ,ζ]);(first |apply hK |(clear hK;apply hK) |(clear hK;clear hK;apply hK));clear hK;(try clear K);(try dsimp only[ag,qs,qb])))
 refine eO (fun x:Nat×List Value×List Value=>⟨[(3,.p 1 0),(4,.p 2 0),(5,.p 3 0),(6,.p 4 0),(23,.v (.agg #[.int .i64 x1.side,.bool p1,.slice p2 p3 p4,.slice p5 p6 p7,.int .i64 x2.side,.bool q1,.slice q2 q3 q4,.slice q5 q6 q7])),(24,.v (.int .i64 x.1))],[[.bool b1,.slice a1 m1 c1,.slice a2 m2 c2,.bool b2,.slice a3 m3 c3,.slice a4 m4 c4,.bool a.isNone,.bool b.isNone,.bool false],[.bool b1',.slice a1' m1' c1',.slice a2' m2' c2',.bool b2',.slice a3' m3' c3',.slice a4' m4' c4',.bool c.isNone,.bool d.isNone,.bool false],[.bool false,.slice none 0 0,.slice none 0 0,.bool false,.slice none 0 0,.slice none 0 0,.bool false,.bool false,.bool false],x.2.1,x.2.2]⟩)
  (fun x h'=>Le h1 h'∧x.1≤2∧∃o,NS.pts 4096 o∧RePt h' (.agg x.2.1.toArray) (rlow o)∧RePt h' (.agg x.2.2.toArray) (rhigh o)∧outer x1 x2 y1 y2 x.1=o)
  (fun x=>2 - x.1) (0,[.int .i64 1,.bool false,.slice none 0 0,.slice none 0 0],[.int .i64 (-1),.bool false,.slice none 0 0,.slice none 0 0]) [0,1,2,3,4] ?_ ⟨inferInstance,by decide,(.e,false,false),⟨trivial,rfl,.inl rfl⟩,⟨_,_,_,rfl,Qr.none _⟩,⟨_,_,_,rfl,Qr.none _⟩,rfl⟩ ?_
 ·simp(disch:=omega) only[go_sem,ξ,ζ,aJ]
 rintro⟨i,cs,ds⟩ h2 ⟨le2,hi2,o,hpt,hL,hM,hacc⟩
 have leh:Le h0 h2:=Le.tr inferInstance le2
 dsimp only at*
 obtain⟨g1,g2,g3,g4,g5,g6,g7,rfl⟩:=hL.list
 obtain⟨k1,k2,k3,k4,k5,k6,k7,rfl⟩:=hM.list
 obtain rfl |rfl |rfl:i=2∨i=0∨i=1:=by omega
 ·rw[hacc] at he
  have qL:=hL.q
  have qM:=hM.q
  clear hL hM
  obtain⟨s,l,u⟩:=o
  rcases hpt.2.2 with e |⟨lo,hi,e⟩<;>(dsimp only at e;subst e)
  ·have:=he rfl
   cases this
   dsimp only[rlow,rhigh,cond_true,cond_false,Pt.side,Pt.val] at*
   simp only[if_true,if_false,qAw,reduceIte]
   repeat (first |(refine wo rfl (fun k hk=>?_);simp(disch:=omega) only[go_sem,ξ,ζ,Nat.reduceMul,Nat.zero_mul,Nat.zero_add,Int.toNat_one,qBm];apply hk;clear hk k) |refine wkt rfl ?_ |refine wk0 ?_ |refine rg rfl rfl (fun K hK=>?_) |((first |refine ae ?_ |refine ac ?_);simp(disch:=decide) only[qs,qb,if_true,if_false,reduceIte]) |refine ah rfl (fun K hK=>?_) |refine ct rfl ?_ |((try simp(disch:=omega) only[go_sem,ξ,ζ]);(first |apply hK |(clear hK;apply hK) |(clear hK;clear hK;apply hK));clear hK;(try clear K);(try dsimp only[ag,qs,qb])))
   refine ai ?_;simp(disch:=omega) only[go_sem,ξ,ζ]
   rw[hacc]
   exact⟨_,_,_,_,_,_,rfl,Qr.none _,Qr.none _⟩
  ·cases l<;>cases u<;>
   ·dsimp only[rlow,rhigh,cond_true,cond_false,Pt.side,Pt.val] at*
    try simp only[if_true,if_false,qAw,reduceIte]
    repeat (first |(refine wo rfl (fun k hk=>?_);simp(disch:=omega) only[go_sem,ξ,ζ,Nat.reduceMul,Nat.zero_mul,Nat.zero_add,Int.toNat_one,qBm];apply hk;clear hk k) |refine wkt rfl ?_ |refine wk0 ?_ |refine rg rfl rfl (fun K hK=>?_) |((first |refine ae ?_ |refine ac ?_);simp(disch:=decide) only[qs,qb,if_true,if_false,reduceIte]) |refine ah rfl (fun K hK=>?_) |refine ct rfl ?_ |((try simp(disch:=omega) only[go_sem,ξ,ζ]);(first |apply hK |(clear hK;apply hK) |(clear hK;clear hK;apply hK));clear hK;(try clear K);(try dsimp only[ag,qs,qb])))
    refine ai ?_;simp(disch:=omega) only[go_sem,ξ,ζ]
    rw[hacc]
    exact⟨_,_,_,_,_,_,rfl,by first |exact qL.to |exact Qr.none _,by first |exact qM.to |exact Qr.none _⟩
 ·repeat (first |(refine wo rfl (fun k hk=>?_);simp(disch:=omega) only[go_sem,ξ,ζ,Nat.reduceMul,Nat.zero_mul,Nat.zero_add,Int.toNat_one,qBm];apply hk;clear hk k) |refine wkt rfl ?_ |refine wk0 ?_ |refine rg rfl rfl (fun K hK=>?_) |((first |refine ae ?_ |refine ac ?_);simp(disch:=decide) only[qs,qb,if_true,if_false,reduceIte]) |refine ah rfl (fun K hK=>?_) |refine ct rfl ?_ |((try simp(disch:=omega) only[go_sem,ξ,ζ]);(first |apply hK |(clear hK;apply hK) |(clear hK;clear hK;apply hK));clear hK;(try clear K);(try dsimp only[ag,qs,qb])))
  refine cN rfl rfl rfl rfl (by exact kB) ?_;rintro w3 h3 s3 zz3;obtain⟨r1,r2,r3,r4,r5,r6,r7,t1,t2,t3,t4,t5,t6,t7,rfl,ec,ed⟩:=zz3
  repeat (first |(refine wo rfl (fun k hk=>?_);simp(disch:=omega) only[go_sem,ξ,ζ,Nat.reduceMul,Nat.zero_mul,Nat.zero_add,Int.toNat_one,qBm];apply hk;clear hk k) |refine wkt rfl ?_ |refine wk0 ?_ |((first |refine rg rfl rfl (fun K hK=>?_));(repeat (first |(refine wo rfl (fun k hk=>?_);simp(disch:=omega) only[go_sem,ξ,ζ,Nat.reduceMul,Nat.zero_mul,Nat.zero_add,Int.toNat_one,qBm];apply hk;clear hk k) |refine wkt rfl ?_ |refine wk0 ?_));(first |apply hK |(clear hK;apply hK) |(clear hK;clear hK;apply hK));clear hK;(try clear K);(try dsimp only[ag,qs,qb])) |((first |refine ae ?_ |refine ac ?_);simp(disch:=decide) only[qs,qb,if_true,if_false,reduceIte]) |refine ah rfl (fun K hK=>?_) |refine ct rfl ?_ |((try simp(disch:=omega) only[go_sem,ξ,ζ]);(first |apply hK |(clear hK;apply hK) |(clear hK;clear hK;apply hK));clear hK;(try clear K);(try dsimp only[ag,qs,qb])))
  have eX:=ea.to (h':=h3)
  have hO:outer x1 x2 y1 y2 (0+1)=inn x1 y1 y2 o 2:=by rw[←hacc];rfl
  have lX:x1.le (2^30):=la
  have lX0:x1.le 2048:=la0
  clear hacc
  generalize hOO:o=O at hO
  refine eO (fun x:Nat×List Value×List Value=>⟨[(3,.p 1 0),(4,.p 2 0),(5,.p 3 0),(6,.p 4 0),(8,.p 5 0),(23,.v (.agg #[.int .i64 x1.side,.bool p1,.slice p2 p3 p4,.slice p5 p6 p7,.int .i64 x2.side,.bool q1,.slice q2 q3 q4,.slice q5 q6 q7])),(24,.v (.int .i64 0)),(28,.v (.agg #[.int .i64 y1.side,.bool r1,.slice r2 r3 r4,.slice r5 r6 r7,.int .i64 y2.side,.bool t1,.slice t2 t3 t4,.slice t5 t6 t7])),(29,.v (.int .i64 x.1))],[[.bool b1,.slice a1 m1 c1,.slice a2 m2 c2,.bool b2,.slice a3 m3 c3,.slice a4 m4 c4,.bool a.isNone,.bool b.isNone,.bool false],[.bool b1',.slice a1' m1' c1',.slice a2' m2' c2',.bool b2',.slice a3' m3' c3',.slice a4' m4' c4',.bool c.isNone,.bool d.isNone,.bool false],[.bool false,.slice none 0 0,.slice none 0 0,.bool false,.slice none 0 0,.slice none 0 0,.bool false,.bool false,.bool false],x.2.1,x.2.2,[.int .i64 x1.side,.bool p1,.slice p2 p3 p4,.slice p5 p6 p7]]⟩)
   (fun x h'=>Le h3 h'∧x.1≤2∧∃o,NS.pts 4096 o∧RePt h' (.agg x.2.1.toArray) (rlow o)∧RePt h' (.agg x.2.2.toArray) (rhigh o)∧inn x1 y1 y2 O x.1=o)
   (fun x=>2 - x.1) (0,_,_) [0,1,2,3,4,5] ?_ ⟨inferInstance,(show 0≤2 by decide),o,hpt,hL.to (h':=h3),hM.to (h':=h3),hOO.symm⟩ ?_
  ·simp(disch:=omega) only[go_sem,ξ,ζ,aJ]
   subst hOO
   exact⟨.inr rfl,.inr rfl⟩
  clear hL hM hpt hOO o g1 g2 g3 g4 g5 g6 g7 k1 k2 k3 k4 k5 k6 k7
  rintro⟨j,cs,ds⟩ h4 ⟨le4,hj,o,hpt,hL,hM,hacc⟩
  dsimp only at*
  generalize hX:x1=X at*
  obtain⟨g1,g2,g3,g4,g5,g6,g7,rfl⟩:=hL.list
  obtain⟨k1,k2,k3,k4,k5,k6,k7,rfl⟩:=hM.list
  obtain rfl |rfl |rfl:j=2∨j=0∨j=1:=by omega
  ·repeat (first |(refine wo rfl (fun k hk=>?_);simp(disch:=omega) only[go_sem,ξ,ζ,Nat.reduceMul,Nat.zero_mul,Nat.zero_add,Int.toNat_one,qBm];apply hk;clear hk k) |refine wkt rfl ?_ |refine wk0 ?_ |refine rg rfl rfl (fun K hK=>?_) |((first |refine ae ?_ |refine ac ?_);simp(disch:=decide) only[qs,qb,if_true,if_false,reduceIte]) |refine ah rfl (fun K hK=>?_) |refine ct rfl ?_ |((try simp(disch:=omega) only[go_sem,ξ,ζ]);(first |apply hK |(clear hK;apply hK) |(clear hK;clear hK;apply hK));clear hK;(try clear K);(try dsimp only[ag,qs,qb])))
   refine⟨(0+1,_,_),[0,1,2,3,4],?_,⟨Le.tr le2 (Le.tr inferInstance le4),(show 0+1≤2 by decide),o,hpt,hL,hM,by rw[hO];exact hacc⟩,(show 2 - (0+1) < 2 - 0 by decide)⟩
   simp(disch:=omega) only[go_sem,ξ,ζ,aJ]
   all_goals rfl
  ·have lz:=lU lX0 lc0 (by decide)
   have hz:inn X y1 y2 O (0+1)=stp o (X.mul y1):=by rw[←hacc];rfl
   have e1:=tJ (z:=X.mul y1) hpt.2.2
   have e2:=qW (z:=X.mul y1) hpt.2.2
   have hpt':=ja (z:=X.mul y1) hpt lz
   have kT:=fun {h} [Le h4 h]=>mw (h:=h) (eX.to (h':=h4)) (ec.to (h':=h4)) lX lc
   generalize X.mul y1=z at*
   have lz':=Pt.up (m:=2^30) lz (by decide)
   have lL:=Pt.up (m:=2^30) (wz hpt) (by decide)
   have lM:=Pt.up (m:=2^30) (tI hpt) (by decide)
   cases b1:z.bef (rlow o)<;>cases b2:(rhigh o).bef z<;>
   ·rw[b1] at e1
    rw[b2] at e2
    dsimp only[cond_true,cond_false] at e1 e2
    repeat (first |(refine wo rfl (fun k hk=>?_);simp(disch:=omega) only[go_sem,ξ,ζ,Nat.reduceMul,Nat.zero_mul,Nat.zero_add,Int.toNat_one,qBm];apply hk;clear hk k) |refine wkt rfl ?_ |refine wk0 ?_ |refine rg rfl rfl (fun K hK=>?_) |((first |refine ae ?_ |refine ac ?_);simp(disch:=decide) only[qs,qb,if_true,if_false,reduceIte]) |refine ah rfl (fun K hK=>?_) |refine ct rfl ?_ |((try simp(disch:=omega) only[go_sem,ξ,ζ]);(first |apply hK |(clear hK;apply hK) |(clear hK;clear hK;apply hK));clear hK;(try clear K);(try dsimp only[ag,qs,qb])))
    refine cN rfl rfl rfl rfl (by exact kT) ?_;rintro w5 h5 s5 zz5;obtain⟨f1,f2,f3,f4,f5,f6,f7,rfl,zz5c⟩:=zz5.sa
    repeat (first |(refine wo rfl (fun k hk=>?_);simp(disch:=omega) only[go_sem,ξ,ζ,Nat.reduceMul,Nat.zero_mul,Nat.zero_add,Int.toNat_one,qBm];apply hk;clear hk k) |refine wkt rfl ?_ |refine wk0 ?_ |((first |refine rg rfl rfl (fun K hK=>?_));(repeat (first |(refine wo rfl (fun k hk=>?_);simp(disch:=omega) only[go_sem,ξ,ζ,Nat.reduceMul,Nat.zero_mul,Nat.zero_add,Int.toNat_one,qBm];apply hk;clear hk k) |refine wkt rfl ?_ |refine wk0 ?_));(first |apply hK |(clear hK;apply hK) |(clear hK;clear hK;apply hK));clear hK;(try clear K);(try dsimp only[ag,qs,qb])) |((first |refine ae ?_ |refine ac ?_);simp(disch:=decide) only[qs,qb,if_true,if_false,reduceIte]) |refine ah rfl (fun K hK=>?_) |refine ct rfl ?_ |((try simp(disch:=omega) only[go_sem,ξ,ζ]);(first |apply hK |(clear hK;apply hK) |(clear hK;clear hK;apply hK));clear hK;(try clear K);(try dsimp only[ag,qs,qb])))
    have zz5d:RePt h5 (.agg #[.int .i64 z.side,.bool f1,.slice f2 f3 f4,.slice f5 f6 f7]) z:=⟨_,_,_,rfl,zz5c⟩
    have kP:=fun {h} [Le h5 h]=>ji (h:=h) zz5d (hL.to (h':=h5)) lz' lL
    have kQ:=fun {h} [Le h5 h]=>ji (h:=h) (hM.to (h':=h5)) zz5d lM lz'
    rw[b1] at kP
    rw[b2] at kQ
    refine rg rfl rfl (fun K hK=>?_);(repeat (first |(refine wo rfl (fun k hk=>?_);simp(disch:=omega) only[go_sem,ξ,ζ];apply hk;clear hk k) |refine wkt rfl ?_));(try refine wk0 ?_)
    refine cN rfl rfl rfl rfl (by exact kP) ?_;rintro w6 h6 s6 rfl
    repeat (first |(refine wo rfl (fun k hk=>?_);simp(disch:=omega) only[go_sem,ξ,ζ,Nat.reduceMul,Nat.zero_mul,Nat.zero_add,Int.toNat_one,qBm];apply hk;clear hk k) |refine wkt rfl ?_ |refine wk0 ?_ |refine rg rfl rfl (fun K hK=>?_) |((first |refine ae ?_ |refine ac ?_);simp(disch:=decide) only[qs,qb,if_true,if_false,reduceIte]) |refine ah rfl (fun K hK=>?_) |refine ct rfl ?_ |((try simp(disch:=omega) only[go_sem,ξ,ζ]);(first |apply hK |(clear hK;apply hK) |(clear hK;clear hK;apply hK));clear hK;(try clear K);(try dsimp only[ag,qs,qb])))
    refine cN rfl rfl rfl rfl (by exact kQ) ?_;rintro w7 h7 s7 rfl
    repeat (first |(refine wo rfl (fun k hk=>?_);simp(disch:=omega) only[go_sem,ξ,ζ,Nat.reduceMul,Nat.zero_mul,Nat.zero_add,Int.toNat_one,qBm];apply hk;clear hk k) |refine wkt rfl ?_ |refine wk0 ?_ |refine rg rfl rfl (fun K hK=>?_) |((first |refine ae ?_ |refine ac ?_);simp(disch:=decide) only[qs,qb,if_true,if_false,reduceIte]) |refine ah rfl (fun K hK=>?_) |refine ct rfl ?_ |((try simp(disch:=omega) only[go_sem,ξ,ζ]);(first |apply hK |(clear hK;apply hK) |(clear hK;clear hK;apply hK));clear hK;(try clear K);(try dsimp only[ag,qs,qb])))
    refine⟨(0+1,_,_),[0,1,2,3,4,5],?_,⟨inferInstance,(show 0+1≤2 by decide),_,hpt',by rw[e1];first |exact zz5d.to |exact hL.to,by rw[e2];first |exact zz5d.to |exact hM.to,hz⟩,(show 2 - (0+1) < 2 - 0 by decide)⟩
    simp(disch:=omega) only[go_sem,ξ,ζ,aJ]
    all_goals rfl
  ·have lz:=lU lX0 ld0 (by decide)
   have hz:inn X y1 y2 O (1+1)=stp o (X.mul y2):=by rw[←hacc];rfl
   have e1:=tJ (z:=X.mul y2) hpt.2.2
   have e2:=qW (z:=X.mul y2) hpt.2.2
   have hpt':=ja (z:=X.mul y2) hpt lz
   have kT:=fun {h} [Le h4 h]=>mw (h:=h) (eX.to (h':=h4)) (ed.to (h':=h4)) lX ld
   generalize X.mul y2=z at*
   have lz':=Pt.up (m:=2^30) lz (by decide)
   have lL:=Pt.up (m:=2^30) (wz hpt) (by decide)
   have lM:=Pt.up (m:=2^30) (tI hpt) (by decide)
   cases b1:z.bef (rlow o)<;>cases b2:(rhigh o).bef z<;>
   ·rw[b1] at e1
    rw[b2] at e2
    dsimp only[cond_true,cond_false] at e1 e2
    repeat (first |(refine wo rfl (fun k hk=>?_);simp(disch:=omega) only[go_sem,ξ,ζ,Nat.reduceMul,Nat.zero_mul,Nat.zero_add,Int.toNat_one,qBm];apply hk;clear hk k) |refine wkt rfl ?_ |refine wk0 ?_ |refine rg rfl rfl (fun K hK=>?_) |((first |refine ae ?_ |refine ac ?_);simp(disch:=decide) only[qs,qb,if_true,if_false,reduceIte]) |refine ah rfl (fun K hK=>?_) |refine ct rfl ?_ |((try simp(disch:=omega) only[go_sem,ξ,ζ]);(first |apply hK |(clear hK;apply hK) |(clear hK;clear hK;apply hK));clear hK;(try clear K);(try dsimp only[ag,qs,qb])))
    refine cN rfl rfl rfl rfl (by exact kT) ?_;rintro w5 h5 s5 zz5;obtain⟨f1,f2,f3,f4,f5,f6,f7,rfl,zz5c⟩:=zz5.sa
    repeat (first |(refine wo rfl (fun k hk=>?_);simp(disch:=omega) only[go_sem,ξ,ζ,Nat.reduceMul,Nat.zero_mul,Nat.zero_add,Int.toNat_one,qBm];apply hk;clear hk k) |refine wkt rfl ?_ |refine wk0 ?_ |((first |refine rg rfl rfl (fun K hK=>?_));(repeat (first |(refine wo rfl (fun k hk=>?_);simp(disch:=omega) only[go_sem,ξ,ζ,Nat.reduceMul,Nat.zero_mul,Nat.zero_add,Int.toNat_one,qBm];apply hk;clear hk k) |refine wkt rfl ?_ |refine wk0 ?_));(first |apply hK |(clear hK;apply hK) |(clear hK;clear hK;apply hK));clear hK;(try clear K);(try dsimp only[ag,qs,qb])) |((first |refine ae ?_ |refine ac ?_);simp(disch:=decide) only[qs,qb,if_true,if_false,reduceIte]) |refine ah rfl (fun K hK=>?_) |refine ct rfl ?_ |((try simp(disch:=omega) only[go_sem,ξ,ζ]);(first |apply hK |(clear hK;apply hK) |(clear hK;clear hK;apply hK));clear hK;(try clear K);(try dsimp only[ag,qs,qb])))
    have zz5d:RePt h5 (.agg #[.int .i64 z.side,.bool f1,.slice f2 f3 f4,.slice f5 f6 f7]) z:=⟨_,_,_,rfl,zz5c⟩
    have kP:=fun {h} [Le h5 h]=>ji (h:=h) zz5d (hL.to (h':=h5)) lz' lL
    have kQ:=fun {h} [Le h5 h]=>ji (h:=h) (hM.to (h':=h5)) zz5d lM lz'
    rw[b1] at kP
    rw[b2] at kQ
    refine rg rfl rfl (fun K hK=>?_);(repeat (first |(refine wo rfl (fun k hk=>?_);simp(disch:=omega) only[go_sem,ξ,ζ];apply hk;clear hk k) |refine wkt rfl ?_));(try refine wk0 ?_)
    refine cN rfl rfl rfl rfl (by exact kP) ?_;rintro w6 h6 s6 rfl
    repeat (first |(refine wo rfl (fun k hk=>?_);simp(disch:=omega) only[go_sem,ξ,ζ,Nat.reduceMul,Nat.zero_mul,Nat.zero_add,Int.toNat_one,qBm];apply hk;clear hk k) |refine wkt rfl ?_ |refine wk0 ?_ |refine rg rfl rfl (fun K hK=>?_) |((first |refine ae ?_ |refine ac ?_);simp(disch:=decide) only[qs,qb,if_true,if_false,reduceIte]) |refine ah rfl (fun K hK=>?_) |refine ct rfl ?_ |((try simp(disch:=omega) only[go_sem,ξ,ζ]);(first |apply hK |(clear hK;apply hK) |(clear hK;clear hK;apply hK));clear hK;(try clear K);(try dsimp only[ag,qs,qb])))
    refine cN rfl rfl rfl rfl (by exact kQ) ?_;rintro w7 h7 s7 rfl
    repeat (first |(refine wo rfl (fun k hk=>?_);simp(disch:=omega) only[go_sem,ξ,ζ,Nat.reduceMul,Nat.zero_mul,Nat.zero_add,Int.toNat_one,qBm];apply hk;clear hk k) |refine wkt rfl ?_ |refine wk0 ?_ |refine rg rfl rfl (fun K hK=>?_) |((first |refine ae ?_ |refine ac ?_);simp(disch:=decide) only[qs,qb,if_true,if_false,reduceIte]) |refine ah rfl (fun K hK=>?_) |refine ct rfl ?_ |((try simp(disch:=omega) only[go_sem,ξ,ζ]);(first |apply hK |(clear hK;apply hK) |(clear hK;clear hK;apply hK));clear hK;(try clear K);(try dsimp only[ag,qs,qb])))
    refine⟨(1+1,_,_),[0,1,2,3,4,5],?_,⟨inferInstance,(show 1+1≤2 by decide),_,hpt',by rw[e1];first |exact zz5d.to |exact hL.to,by rw[e2];first |exact zz5d.to |exact hM.to,hz⟩,(show 2 - (1+1) < 2 - 1 by decide)⟩
    simp(disch:=omega) only[go_sem,ξ,ζ,aJ]
    all_goals rfl
 ·repeat (first |(refine wo rfl (fun k hk=>?_);simp(disch:=omega) only[go_sem,ξ,ζ,Nat.reduceMul,Nat.zero_mul,Nat.zero_add,Int.toNat_one,qBm];apply hk;clear hk k) |refine wkt rfl ?_ |refine wk0 ?_ |refine rg rfl rfl (fun K hK=>?_) |((first |refine ae ?_ |refine ac ?_);simp(disch:=decide) only[qs,qb,if_true,if_false,reduceIte]) |refine ah rfl (fun K hK=>?_) |refine ct rfl ?_ |((try simp(disch:=omega) only[go_sem,ξ,ζ]);(first |apply hK |(clear hK;apply hK) |(clear hK;clear hK;apply hK));clear hK;(try clear K);(try dsimp only[ag,qs,qb])))
  refine cN rfl rfl rfl rfl (by exact kB) ?_;rintro w3 h3 s3 zz3;obtain⟨r1,r2,r3,r4,r5,r6,r7,t1,t2,t3,t4,t5,t6,t7,rfl,ec,ed⟩:=zz3
  repeat (first |(refine wo rfl (fun k hk=>?_);simp(disch:=omega) only[go_sem,ξ,ζ,Nat.reduceMul,Nat.zero_mul,Nat.zero_add,Int.toNat_one,qBm];apply hk;clear hk k) |refine wkt rfl ?_ |refine wk0 ?_ |((first |refine rg rfl rfl (fun K hK=>?_));(repeat (first |(refine wo rfl (fun k hk=>?_);simp(disch:=omega) only[go_sem,ξ,ζ,Nat.reduceMul,Nat.zero_mul,Nat.zero_add,Int.toNat_one,qBm];apply hk;clear hk k) |refine wkt rfl ?_ |refine wk0 ?_));(first |apply hK |(clear hK;apply hK) |(clear hK;clear hK;apply hK));clear hK;(try clear K);(try dsimp only[ag,qs,qb])) |((first |refine ae ?_ |refine ac ?_);simp(disch:=decide) only[qs,qb,if_true,if_false,reduceIte]) |refine ah rfl (fun K hK=>?_) |refine ct rfl ?_ |((try simp(disch:=omega) only[go_sem,ξ,ζ]);(first |apply hK |(clear hK;apply hK) |(clear hK;clear hK;apply hK));clear hK;(try clear K);(try dsimp only[ag,qs,qb])))
  have eX:=eb.to (h':=h3)
  have hO:outer x1 x2 y1 y2 (1+1)=inn x2 y1 y2 o 2:=by rw[←hacc];rfl
  have lX:x2.le (2^30):=lb
  have lX0:x2.le 2048:=lb0
  clear hacc
  generalize hOO:o=O at hO
  refine eO (fun x:Nat×List Value×List Value=>⟨[(3,.p 1 0),(4,.p 2 0),(5,.p 3 0),(6,.p 4 0),(8,.p 5 0),(23,.v (.agg #[.int .i64 x1.side,.bool p1,.slice p2 p3 p4,.slice p5 p6 p7,.int .i64 x2.side,.bool q1,.slice q2 q3 q4,.slice q5 q6 q7])),(24,.v (.int .i64 1)),(28,.v (.agg #[.int .i64 y1.side,.bool r1,.slice r2 r3 r4,.slice r5 r6 r7,.int .i64 y2.side,.bool t1,.slice t2 t3 t4,.slice t5 t6 t7])),(29,.v (.int .i64 x.1))],[[.bool b1,.slice a1 m1 c1,.slice a2 m2 c2,.bool b2,.slice a3 m3 c3,.slice a4 m4 c4,.bool a.isNone,.bool b.isNone,.bool false],[.bool b1',.slice a1' m1' c1',.slice a2' m2' c2',.bool b2',.slice a3' m3' c3',.slice a4' m4' c4',.bool c.isNone,.bool d.isNone,.bool false],[.bool false,.slice none 0 0,.slice none 0 0,.bool false,.slice none 0 0,.slice none 0 0,.bool false,.bool false,.bool false],x.2.1,x.2.2,[.int .i64 x2.side,.bool q1,.slice q2 q3 q4,.slice q5 q6 q7]]⟩)
   (fun x h'=>Le h3 h'∧x.1≤2∧∃o,NS.pts 4096 o∧RePt h' (.agg x.2.1.toArray) (rlow o)∧RePt h' (.agg x.2.2.toArray) (rhigh o)∧inn x2 y1 y2 O x.1=o)
   (fun x=>2 - x.1) (0,_,_) [0,1,2,3,4,5] ?_ ⟨inferInstance,(show 0≤2 by decide),o,hpt,hL.to (h':=h3),hM.to (h':=h3),hOO.symm⟩ ?_
  ·simp(disch:=omega) only[go_sem,ξ,ζ,aJ]
   subst hOO
   exact⟨.inr rfl,.inr rfl⟩
  clear hL hM hpt hOO o g1 g2 g3 g4 g5 g6 g7 k1 k2 k3 k4 k5 k6 k7
  rintro⟨j,cs,ds⟩ h4 ⟨le4,hj,o,hpt,hL,hM,hacc⟩
  dsimp only at*
  generalize hX:x2=X at*
  obtain⟨g1,g2,g3,g4,g5,g6,g7,rfl⟩:=hL.list
  obtain⟨k1,k2,k3,k4,k5,k6,k7,rfl⟩:=hM.list
  obtain rfl |rfl |rfl:j=2∨j=0∨j=1:=by omega
  ·repeat (first |(refine wo rfl (fun k hk=>?_);simp(disch:=omega) only[go_sem,ξ,ζ,Nat.reduceMul,Nat.zero_mul,Nat.zero_add,Int.toNat_one,qBm];apply hk;clear hk k) |refine wkt rfl ?_ |refine wk0 ?_ |refine rg rfl rfl (fun K hK=>?_) |((first |refine ae ?_ |refine ac ?_);simp(disch:=decide) only[qs,qb,if_true,if_false,reduceIte]) |refine ah rfl (fun K hK=>?_) |refine ct rfl ?_ |((try simp(disch:=omega) only[go_sem,ξ,ζ]);(first |apply hK |(clear hK;apply hK) |(clear hK;clear hK;apply hK));clear hK;(try clear K);(try dsimp only[ag,qs,qb])))
   refine⟨(1+1,_,_),[0,1,2,3,4],?_,⟨Le.tr le2 (Le.tr inferInstance le4),(show 1+1≤2 by decide),o,hpt,hL,hM,by rw[hO];exact hacc⟩,(show 2 - (1+1) < 2 - 1 by decide)⟩
   simp(disch:=omega) only[go_sem,ξ,ζ,aJ]
   all_goals rfl
  ·have lz:=lU lX0 lc0 (by decide)
   have hz:inn X y1 y2 O (0+1)=stp o (X.mul y1):=by rw[←hacc];rfl
   have e1:=tJ (z:=X.mul y1) hpt.2.2
   have e2:=qW (z:=X.mul y1) hpt.2.2
   have hpt':=ja (z:=X.mul y1) hpt lz
   have kT:=fun {h} [Le h4 h]=>mw (h:=h) (eX.to (h':=h4)) (ec.to (h':=h4)) lX lc
   generalize X.mul y1=z at*
   have lz':=Pt.up (m:=2^30) lz (by decide)
   have lL:=Pt.up (m:=2^30) (wz hpt) (by decide)
   have lM:=Pt.up (m:=2^30) (tI hpt) (by decide)
   cases b1:z.bef (rlow o)<;>cases b2:(rhigh o).bef z<;>
   ·rw[b1] at e1
    rw[b2] at e2
    dsimp only[cond_true,cond_false] at e1 e2
    repeat (first |(refine wo rfl (fun k hk=>?_);simp(disch:=omega) only[go_sem,ξ,ζ,Nat.reduceMul,Nat.zero_mul,Nat.zero_add,Int.toNat_one,qBm];apply hk;clear hk k) |refine wkt rfl ?_ |refine wk0 ?_ |refine rg rfl rfl (fun K hK=>?_) |((first |refine ae ?_ |refine ac ?_);simp(disch:=decide) only[qs,qb,if_true,if_false,reduceIte]) |refine ah rfl (fun K hK=>?_) |refine ct rfl ?_ |((try simp(disch:=omega) only[go_sem,ξ,ζ]);(first |apply hK |(clear hK;apply hK) |(clear hK;clear hK;apply hK));clear hK;(try clear K);(try dsimp only[ag,qs,qb])))
    refine cN rfl rfl rfl rfl (by exact kT) ?_;rintro w5 h5 s5 zz5;obtain⟨f1,f2,f3,f4,f5,f6,f7,rfl,zz5c⟩:=zz5.sa
    repeat (first |(refine wo rfl (fun k hk=>?_);simp(disch:=omega) only[go_sem,ξ,ζ,Nat.reduceMul,Nat.zero_mul,Nat.zero_add,Int.toNat_one,qBm];apply hk;clear hk k) |refine wkt rfl ?_ |refine wk0 ?_ |((first |refine rg rfl rfl (fun K hK=>?_));(repeat (first |(refine wo rfl (fun k hk=>?_);simp(disch:=omega) only[go_sem,ξ,ζ,Nat.reduceMul,Nat.zero_mul,Nat.zero_add,Int.toNat_one,qBm];apply hk;clear hk k) |refine wkt rfl ?_ |refine wk0 ?_));(first |apply hK |(clear hK;apply hK) |(clear hK;clear hK;apply hK));clear hK;(try clear K);(try dsimp only[ag,qs,qb])) |((first |refine ae ?_ |refine ac ?_);simp(disch:=decide) only[qs,qb,if_true,if_false,reduceIte]) |refine ah rfl (fun K hK=>?_) |refine ct rfl ?_ |((try simp(disch:=omega) only[go_sem,ξ,ζ]);(first |apply hK |(clear hK;apply hK) |(clear hK;clear hK;apply hK));clear hK;(try clear K);(try dsimp only[ag,qs,qb])))
    have zz5d:RePt h5 (.agg #[.int .i64 z.side,.bool f1,.slice f2 f3 f4,.slice f5 f6 f7]) z:=⟨_,_,_,rfl,zz5c⟩
    have kP:=fun {h} [Le h5 h]=>ji (h:=h) zz5d (hL.to (h':=h5)) lz' lL
    have kQ:=fun {h} [Le h5 h]=>ji (h:=h) (hM.to (h':=h5)) zz5d lM lz'
    rw[b1] at kP
    rw[b2] at kQ
    refine rg rfl rfl (fun K hK=>?_);(repeat (first |(refine wo rfl (fun k hk=>?_);simp(disch:=omega) only[go_sem,ξ,ζ];apply hk;clear hk k) |refine wkt rfl ?_));(try refine wk0 ?_)
    refine cN rfl rfl rfl rfl (by exact kP) ?_;rintro w6 h6 s6 rfl
    repeat (first |(refine wo rfl (fun k hk=>?_);simp(disch:=omega) only[go_sem,ξ,ζ,Nat.reduceMul,Nat.zero_mul,Nat.zero_add,Int.toNat_one,qBm];apply hk;clear hk k) |refine wkt rfl ?_ |refine wk0 ?_ |refine rg rfl rfl (fun K hK=>?_) |((first |refine ae ?_ |refine ac ?_);simp(disch:=decide) only[qs,qb,if_true,if_false,reduceIte]) |refine ah rfl (fun K hK=>?_) |refine ct rfl ?_ |((try simp(disch:=omega) only[go_sem,ξ,ζ]);(first |apply hK |(clear hK;apply hK) |(clear hK;clear hK;apply hK));clear hK;(try clear K);(try dsimp only[ag,qs,qb])))
    refine cN rfl rfl rfl rfl (by exact kQ) ?_;rintro w7 h7 s7 rfl
    repeat (first |(refine wo rfl (fun k hk=>?_);simp(disch:=omega) only[go_sem,ξ,ζ,Nat.reduceMul,Nat.zero_mul,Nat.zero_add,Int.toNat_one,qBm];apply hk;clear hk k) |refine wkt rfl ?_ |refine wk0 ?_ |refine rg rfl rfl (fun K hK=>?_) |((first |refine ae ?_ |refine ac ?_);simp(disch:=decide) only[qs,qb,if_true,if_false,reduceIte]) |refine ah rfl (fun K hK=>?_) |refine ct rfl ?_ |((try simp(disch:=omega) only[go_sem,ξ,ζ]);(first |apply hK |(clear hK;apply hK) |(clear hK;clear hK;apply hK));clear hK;(try clear K);(try dsimp only[ag,qs,qb])))
    refine⟨(0+1,_,_),[0,1,2,3,4,5],?_,⟨inferInstance,(show 0+1≤2 by decide),_,hpt',by rw[e1];first |exact zz5d.to |exact hL.to,by rw[e2];first |exact zz5d.to |exact hM.to,hz⟩,(show 2 - (0+1) < 2 - 0 by decide)⟩
    simp(disch:=omega) only[go_sem,ξ,ζ,aJ]
    all_goals rfl
  ·have lz:=lU lX0 ld0 (by decide)
   have hz:inn X y1 y2 O (1+1)=stp o (X.mul y2):=by rw[←hacc];rfl
   have e1:=tJ (z:=X.mul y2) hpt.2.2
   have e2:=qW (z:=X.mul y2) hpt.2.2
   have hpt':=ja (z:=X.mul y2) hpt lz
   have kT:=fun {h} [Le h4 h]=>mw (h:=h) (eX.to (h':=h4)) (ed.to (h':=h4)) lX ld
   generalize X.mul y2=z at*
   have lz':=Pt.up (m:=2^30) lz (by decide)
   have lL:=Pt.up (m:=2^30) (wz hpt) (by decide)
   have lM:=Pt.up (m:=2^30) (tI hpt) (by decide)
   cases b1:z.bef (rlow o)<;>cases b2:(rhigh o).bef z<;>
   ·rw[b1] at e1
    rw[b2] at e2
    dsimp only[cond_true,cond_false] at e1 e2
    repeat (first |(refine wo rfl (fun k hk=>?_);simp(disch:=omega) only[go_sem,ξ,ζ,Nat.reduceMul,Nat.zero_mul,Nat.zero_add,Int.toNat_one,qBm];apply hk;clear hk k) |refine wkt rfl ?_ |refine wk0 ?_ |refine rg rfl rfl (fun K hK=>?_) |((first |refine ae ?_ |refine ac ?_);simp(disch:=decide) only[qs,qb,if_true,if_false,reduceIte]) |refine ah rfl (fun K hK=>?_) |refine ct rfl ?_ |((try simp(disch:=omega) only[go_sem,ξ,ζ]);(first |apply hK |(clear hK;apply hK) |(clear hK;clear hK;apply hK));clear hK;(try clear K);(try dsimp only[ag,qs,qb])))
    refine cN rfl rfl rfl rfl (by exact kT) ?_;rintro w5 h5 s5 zz5;obtain⟨f1,f2,f3,f4,f5,f6,f7,rfl,zz5c⟩:=zz5.sa
    repeat (first |(refine wo rfl (fun k hk=>?_);simp(disch:=omega) only[go_sem,ξ,ζ,Nat.reduceMul,Nat.zero_mul,Nat.zero_add,Int.toNat_one,qBm];apply hk;clear hk k) |refine wkt rfl ?_ |refine wk0 ?_ |((first |refine rg rfl rfl (fun K hK=>?_));(repeat (first |(refine wo rfl (fun k hk=>?_);simp(disch:=omega) only[go_sem,ξ,ζ,Nat.reduceMul,Nat.zero_mul,Nat.zero_add,Int.toNat_one,qBm];apply hk;clear hk k) |refine wkt rfl ?_ |refine wk0 ?_));(first |apply hK |(clear hK;apply hK) |(clear hK;clear hK;apply hK));clear hK;(try clear K);(try dsimp only[ag,qs,qb])) |((first |refine ae ?_ |refine ac ?_);simp(disch:=decide) only[qs,qb,if_true,if_false,reduceIte]) |refine ah rfl (fun K hK=>?_) |refine ct rfl ?_ |((try simp(disch:=omega) only[go_sem,ξ,ζ]);(first |apply hK |(clear hK;apply hK) |(clear hK;clear hK;apply hK));clear hK;(try clear K);(try dsimp only[ag,qs,qb])))
    have zz5d:RePt h5 (.agg #[.int .i64 z.side,.bool f1,.slice f2 f3 f4,.slice f5 f6 f7]) z:=⟨_,_,_,rfl,zz5c⟩
    have kP:=fun {h} [Le h5 h]=>ji (h:=h) zz5d (hL.to (h':=h5)) lz' lL
    have kQ:=fun {h} [Le h5 h]=>ji (h:=h) (hM.to (h':=h5)) zz5d lM lz'
    rw[b1] at kP
    rw[b2] at kQ
    refine rg rfl rfl (fun K hK=>?_);(repeat (first |(refine wo rfl (fun k hk=>?_);simp(disch:=omega) only[go_sem,ξ,ζ];apply hk;clear hk k) |refine wkt rfl ?_));(try refine wk0 ?_)
    refine cN rfl rfl rfl rfl (by exact kP) ?_;rintro w6 h6 s6 rfl
    repeat (first |(refine wo rfl (fun k hk=>?_);simp(disch:=omega) only[go_sem,ξ,ζ,Nat.reduceMul,Nat.zero_mul,Nat.zero_add,Int.toNat_one,qBm];apply hk;clear hk k) |refine wkt rfl ?_ |refine wk0 ?_ |refine rg rfl rfl (fun K hK=>?_) |((first |refine ae ?_ |refine ac ?_);simp(disch:=decide) only[qs,qb,if_true,if_false,reduceIte]) |refine ah rfl (fun K hK=>?_) |refine ct rfl ?_ |((try simp(disch:=omega) only[go_sem,ξ,ζ]);(first |apply hK |(clear hK;apply hK) |(clear hK;clear hK;apply hK));clear hK;(try clear K);(try dsimp only[ag,qs,qb])))
    refine cN rfl rfl rfl rfl (by exact kQ) ?_;rintro w7 h7 s7 rfl
    repeat (first |(refine wo rfl (fun k hk=>?_);simp(disch:=omega) only[go_sem,ξ,ζ,Nat.reduceMul,Nat.zero_mul,Nat.zero_add,Int.toNat_one,qBm];apply hk;clear hk k) |refine wkt rfl ?_ |refine wk0 ?_ |refine rg rfl rfl (fun K hK=>?_) |((first |refine ae ?_ |refine ac ?_);simp(disch:=decide) only[qs,qb,if_true,if_false,reduceIte]) |refine ah rfl (fun K hK=>?_) |refine ct rfl ?_ |((try simp(disch:=omega) only[go_sem,ξ,ζ]);(first |apply hK |(clear hK;apply hK) |(clear hK;clear hK;apply hK));clear hK;(try clear K);(try dsimp only[ag,qs,qb])))
    refine⟨(1+1,_,_),[0,1,2,3,4,5],?_,⟨inferInstance,(show 1+1≤2 by decide),_,hpt',by rw[e1];first |exact zz5d.to |exact hL.to,by rw[e2];first |exact zz5d.to |exact hM.to,hz⟩,(show 2 - (1+1) < 2 - 1 by decide)⟩
    simp(disch:=omega) only[go_sem,ξ,ζ,aJ]
    all_goals rfl
theorem CN {h0 h:PH} [Le h0 h] {v w:Value} {x y:NS} (hv:Rr h0 v x) (hw:Rr h0 w y) (lx:x.le 2048) (ly:y.le 2048):
  Spec mach 216 #[v,w] h (fun v h'=>Rr h' v (x.prod y)) NP:=by
 cases x with
 | i a b=>cases y with
  |i c d=>exact EM hv hw lx ly
  | e=>
   show Spec _ _ _ _ (fun v h'=>Rr h' v .e) _
   obtain⟨_,_,_,_,_,_,_,_,_,_,_,_,_,_,rfl,_,_⟩:=hv.sa
   obtain⟨_,_,_,_,_,_,_,_,_,_,_,_,_,_,rfl,_,_⟩:=hw.sa
   dsimp only[NS.void]
   refine Spec.go [] Tryz.func216 rfl rfl (by kernel_rfl) fun C _=>?_
   try simp(maxSteps:=999999) (disch:=omega) only[go_sem,ξ,ζ,Nat.reduceMul,Nat.zero_mul,Nat.zero_add,Int.toNat_one,qBm]
   refine caN (by exact i6) ?_;rintro _ h1 _ f1;obtain⟨_,_,_,_,_,_,_,_,_,_,_,_,_,_,rfl,f1⟩:=f1.sa
   try simp(maxSteps:=999999) (disch:=omega) only[go_sem,ξ,ζ,Nat.reduceMul,Nat.zero_mul,Nat.zero_add,Int.toNat_one,qBm]
   exact f1
 | e=>
  have e0:NS.e.prod y=.e:=by cases y<;>rfl
  rw[e0]
  obtain⟨_,_,_,_,_,_,_,_,_,_,_,_,_,_,rfl,_,_⟩:=hv.sa
  obtain⟨_,_,_,_,_,_,_,_,_,_,_,_,_,_,rfl,_,_⟩:=hw.sa
  dsimp only[NS.void]
  refine Spec.go [] Tryz.func216 rfl rfl (by kernel_rfl) fun C _=>?_
  try simp(maxSteps:=999999) (disch:=omega) only[go_sem,ξ,ζ,Nat.reduceMul,Nat.zero_mul,Nat.zero_add,Int.toNat_one,qBm]
  refine caN (by exact i6) ?_;rintro _ h1 _ f1;obtain⟨_,_,_,_,_,_,_,_,_,_,_,_,_,_,rfl,f1⟩:=f1.sa
  try simp(maxSteps:=999999) (disch:=omega) only[go_sem,ξ,ζ,Nat.reduceMul,Nat.zero_mul,Nat.zero_add,Int.toNat_one,qBm]
  exact f1
theorem Gp {h0 h:PH} [Le h0 h] {v w:Value} {x y:NS} (hv:Rr h0 v x) (hw:Rr h0 w y) (lx:x.le (2^30)) (ly:y.le (2^30)):Spec mach 139 #[v,w] h (fun r h'=>Rr h' r (x.sum y)) NP:=by
 rw[NS.le_ends (by decide)] at lx ly
 obtain⟨_,_,_,_,_,_,_,_,_,_,_,_,_,_,rfl,t1,t2⟩:=hv.sa
 obtain⟨_,_,_,_,_,_,_,_,_,_,_,_,_,_,rfl,t3,t4⟩:=hw.sa
 cases x with
 | e=>
  dsimp only[NS.void]
  refine Spec.go [] Tryz.func139 rfl rfl (by kernel_rfl) fun C _=>?_
  try simp(maxSteps:=999999) (disch:=omega) only[go_sem,ξ,ζ]
  refine caN (by exact i6) ?_;rintro _ h1 _ f1;obtain⟨_,_,_,_,_,_,_,_,_,_,_,_,_,_,rfl,f1⟩:=f1.sa
  try simp(maxSteps:=999999) (disch:=omega) only[go_sem,ξ,ζ]
  exact f1
 | i a b=>
  cases y with
  | e=>
   dsimp only[NS.void]
   refine Spec.go [] Tryz.func139 rfl rfl (by kernel_rfl) fun C _=>?_
   try simp(maxSteps:=999999) (disch:=omega) only[go_sem,ξ,ζ]
   refine caN (by exact i6) ?_;rintro _ h1 _ f1;obtain⟨_,_,_,_,_,_,_,_,_,_,_,_,_,_,rfl,f1⟩:=f1.sa
   try simp(maxSteps:=999999) (disch:=omega) only[go_sem,ξ,ζ]
   exact f1
  | i c d=>
   have kl:=fun {h} [Le h0 h]=>aW (h:=h) t1 t3 (by omega) (by omega)
   have ku:=fun {h} [Le h0 h]=>aW (h:=h) t2 t4 (by omega) (by omega)
   cases a<;>cases c<;>cases b<;>cases d<;>
   ·dsimp only[NS.void,NS.loN,NS.hiN,NS.lo0,NS.hi0,Option.isNone,Option.getD] at*
    refine Spec.go [] Tryz.func139 rfl rfl (by kernel_rfl) fun C _=>?_
    try simp(maxSteps:=999999) (disch:=omega) only[go_sem,ξ,ζ]
    try (refine caN (by exact kl) ?_;rintro _ h1 _ f1;obtain⟨_,_,_,_,_,_,_,rfl,f1⟩:=f1.sa;(try simp(maxSteps:=999999) (disch:=omega) only[go_sem,ξ,ζ]))
    try (refine caN (by exact ku) ?_;rintro _ h2 _ f2;obtain⟨_,_,_,_,_,_,_,rfl,f2⟩:=f2.sa;(try simp(maxSteps:=999999) (disch:=omega) only[go_sem,ξ,ζ]))
    try simp(maxSteps:=999999) (disch:=omega) only[go_sem,ξ,ζ]
    exact⟨_,_,_,_,_,_,rfl,by first |exact f1.to |exact Qr.none _,by first |exact f2.to |exact Qr.none _⟩
theorem FN {x y z:NS} {p:Int} (h:x.void=true∨y.void=true→z=.e):rnd p x y (.ok z)=Out.prec p (.ok (z.hull p.toNat)):=by
 unfold rnd
 cases hx:x.void with
 |true=>rw[h (.inl hx)];rfl
 | false=>
  cases hy:y.void with
  |true=>rw[h (.inr hy)];rfl
  |false=>rfl
theorem D5 {x y:NS} (h:x.void=true∨y.void=true):x.sum y=.e:=by
 cases x with
 |e=>rfl
 | i a b=>
  cases y with
  |e=>rfl
  |i c d=>rcases h with h |h<;>cases h
theorem Fw {x:NS}:x.minus.void=x.void:=by cases x<;>rfl
theorem RefAdd {h0 h:PH} [Le h0 h] {v w:Value} {x y:RI} {p:Int} (hv:Iv h0 v x) (hw:Iv h0 w y):Spec mach 143 #[v,w,.int .i64 p] h (fun r h'=>Ir h' r (x.fin2 y (rnd p x.set y.set (.ok (x.set.sum y.set))))) NP:=by
 have hv0:=hv
 have hw0:=hw
 rw[FN D5]
 obtain⟨a1,m1,c1,a2,m2,c2,a3,m3,c3,a4,m4,c4,rfl,_,_⟩:=hv.sa
 obtain⟨a1',m1',c1',a2',m2',c2',a3',m3',c3',a4',m4',c4',rfl,_,_⟩:=hw.sa
 unfold RI.fin2 Out.prec
 cases g:x.big || y.big with
 | true=>
  refine Spec.go [] Tryz.func143 rfl rfl (by kernel_rfl) fun C _=>?_
  try simp(maxSteps:=999999) (disch:=omega) only[go_sem,ξ,ζ]
  refine caN (by exact gm hv0 hw0 g) ?_;rintro v1 h1 s1 q1;unfold zRI at q1;subst q1
  try simp(maxSteps:=999999) (disch:=omega) only[go_sem,ξ,ζ]
  all_goals rfl
 | false=>
  obtain⟨g1,g2⟩:=Bool.or_eq_false_iff.1 g
  cases gp:bad p with
  | true=>
   refine Spec.go [] Tryz.func143 rfl rfl (by kernel_rfl) fun C _=>?_
   try simp(maxSteps:=999999) (disch:=omega) only[go_sem,ξ,ζ]
   refine caN (by exact pb hv0 hw0 g1 g2 gp) ?_;rintro v1 h1 s1 q1;unfold zRI at q1;subst q1
   try simp(maxSteps:=999999) (disch:=omega) only[go_sem,ξ,ζ]
   all_goals rfl
  | false=>
   simp only[cond_false]
   refine Spec.go [] Tryz.func143 rfl rfl (by kernel_rfl) fun C _=>?_
   try simp(maxSteps:=999999) (disch:=omega) only[go_sem,ξ,ζ]
   refine caN (by exact iJ hv0 hw0 g1 g2 gp) ?_;rintro v1 h1 s1 q1;obtain⟨_,_,rfl,q2,q3⟩:=q1;have q2':=q2;have q3':=q3;obtain⟨_,_,_,_,_,_,_,_,_,_,_,_,_,_,rfl,_,_⟩:=q2.sa;obtain⟨_,_,_,_,_,_,_,_,_,_,_,_,_,_,rfl,_,_⟩:=q3.sa
   try simp(maxSteps:=999999) (disch:=omega) only[go_sem,ξ,ζ]
   refine caN (by exact Gp q2' q3' (RI.le30 g1) (RI.le30 g2)) ?_;rintro _ h2 _ f2;obtain⟨_,_,_,_,_,_,_,_,_,_,_,_,_,_,rfl,f2⟩:=f2.sa
   try simp(maxSteps:=999999) (disch:=omega) only[go_sem,ξ,ζ]
   refine caN (by exact jb f2 ((RI.le g1).sum (RI.le g2)) (jt gp)) ?_;rintro _ h3 _ f3;obtain⟨_,_,_,_,_,_,_,_,_,_,_,_,_,_,rfl,f3⟩:=f3.sa
   try simp(maxSteps:=999999) (disch:=omega) only[go_sem,ξ,ζ]
   refine caN (by exact iI f3) ?_;rintro _ h4 _ hr4;obtain⟨_,_,_,_,_,_,_,_,_,_,_,_,_,_,_,_,_,rfl,hr4⟩:=hr4.sa
   try simp(maxSteps:=999999) (disch:=omega) only[go_sem,ξ,ζ]
   exact hr4
theorem RefSub {h0 h:PH} [Le h0 h] {v w:Value} {x y:RI} {p:Int} (hv:Iv h0 v x) (hw:Iv h0 w y):Spec mach 76 #[v,w,.int .i64 p] h (fun r h'=>Ir h' r (x.fin2 y (rnd p x.set y.set (.ok (x.set.sum y.set.minus))))) NP:=by
 have hv0:=hv
 have hw0:=hw
 rw[FN (fun k=>D5 (by rw[Fw];exact k))]
 obtain⟨a1,m1,c1,a2,m2,c2,a3,m3,c3,a4,m4,c4,rfl,_,_⟩:=hv.sa
 obtain⟨a1',m1',c1',a2',m2',c2',a3',m3',c3',a4',m4',c4',rfl,_,_⟩:=hw.sa
 unfold RI.fin2 Out.prec
 cases g:x.big || y.big with
 | true=>
  refine Spec.go [(4,.o [0,1,4,2,3,5,6,7,8,9,10])] Tryz.func76 rfl rfl (by kernel_rfl) fun C _=>?_
  try simp(maxSteps:=999999) (disch:=omega) only[go_sem,ξ,ζ]
  refine caN (by exact gm hv0 hw0 g) ?_;rintro v1 h1 s1 q1;unfold zRI at q1;subst q1
  try simp(maxSteps:=999999) (disch:=omega) only[go_sem,ξ,ζ]
  all_goals rfl
 | false=>
  obtain⟨g1,g2⟩:=Bool.or_eq_false_iff.1 g
  cases gp:bad p with
  | true=>
   refine Spec.go [(4,.o [0,1,4,2,3,5,6,7,8,9,10])] Tryz.func76 rfl rfl (by kernel_rfl) fun C _=>?_
   try simp(maxSteps:=999999) (disch:=omega) only[go_sem,ξ,ζ]
   refine caN (by exact pb hv0 hw0 g1 g2 gp) ?_;rintro v1 h1 s1 q1;unfold zRI at q1;subst q1
   try simp(maxSteps:=999999) (disch:=omega) only[go_sem,ξ,ζ]
   all_goals rfl
  | false=>
   simp only[cond_false]
   refine Spec.go [(4,.o [0,1,4,2,3,5,6,7,8,9,10])] Tryz.func76 rfl rfl (by kernel_rfl) fun C _=>?_
   try simp(maxSteps:=999999) (disch:=omega) only[go_sem,ξ,ζ]
   refine caN (by exact iJ hv0 hw0 g1 g2 gp) ?_;rintro v1 h1 s1 q1;obtain⟨_,_,rfl,q2,q3⟩:=q1;have q2':=q2;have q3':=q3;obtain⟨_,_,_,_,_,_,_,_,_,_,_,_,_,_,rfl,_,_⟩:=q2.sa;obtain⟨_,_,_,_,_,_,_,_,_,_,_,_,_,_,rfl,_,_⟩:=q3.sa
   try simp(maxSteps:=999999) (disch:=omega) only[go_sem,ξ,ζ]
   refine caN (by exact jq q3') ?_;rintro _ h5 _ f5;obtain⟨_,_,_,_,_,_,_,_,_,_,_,_,_,_,rfl,f5⟩:=f5.sa
   try simp(maxSteps:=999999) (disch:=omega) only[go_sem,ξ,ζ]
   refine caN (by exact Gp (q2'.to (h':=h5)) f5 (RI.le30 g1) (RI.le30 g2).minus) ?_;rintro _ h2 _ f2;obtain⟨_,_,_,_,_,_,_,_,_,_,_,_,_,_,rfl,f2⟩:=f2.sa
   try simp(maxSteps:=999999) (disch:=omega) only[go_sem,ξ,ζ]
   refine caN (by exact jb f2 ((RI.le g1).sum (RI.le g2).minus) (jt gp)) ?_;rintro _ h3 _ f3;obtain⟨_,_,_,_,_,_,_,_,_,_,_,_,_,_,rfl,f3⟩:=f3.sa
   try simp(maxSteps:=999999) (disch:=omega) only[go_sem,ξ,ζ]
   refine caN (by exact iI f3) ?_;rintro _ h4 _ hr4;obtain⟨_,_,_,_,_,_,_,_,_,_,_,_,_,_,_,_,_,rfl,hr4⟩:=hr4.sa
   try simp(maxSteps:=999999) (disch:=omega) only[go_sem,ξ,ζ]
   exact hr4
theorem Br.u {r r':Value} {o:Except Int Bool} (h:Br r o) (h':Br r' o):r'=r:=by
 cases o with
 |ok b=>cases(h:r=_);exact h'
 |error e=>cases(h:r=_);exact h'
theorem JJ {x y:NS} (h:x.void=true∨y.void=true):x.prod y=.e:=by
 cases x with
 |e=>cases y<;>rfl
 | i a b=>
  cases y with
  |e=>rfl
  |i c d=>rcases h with h |h<;>cases h
theorem RefMul {h0 h:PH} [Le h0 h] {v w:Value} {x y:RI} {p:Int} (hv:Iv h0 v x) (hw:Iv h0 w y):Spec mach 142 #[v,w,.int .i64 p] h (fun r h'=>Ir h' r (x.fin2 y (rnd p x.set y.set (.ok (x.set.prod y.set))))) NP:=by
 have hv0:=hv
 have hw0:=hw
 rw[FN JJ]
 obtain⟨a1,m1,c1,a2,m2,c2,a3,m3,c3,a4,m4,c4,rfl,_,_⟩:=hv.sa
 obtain⟨a1',m1',c1',a2',m2',c2',a3',m3',c3',a4',m4',c4',rfl,_,_⟩:=hw.sa
 unfold RI.fin2 Out.prec
 cases g:x.big || y.big with
 | true=>
  refine Spec.enter (args:=[_,_,_]) (n:=31) Tryz.func142 rfl (by kernel_rfl) rfl (by simp) [.cell 6 35,.tmp 7] rfl (fun C _=>?_)
  repeat (first |(refine wo rfl (fun k hk=>?_);simp(disch:=omega) only[go_sem,ξ,ζ];apply hk;clear hk k) |refine wkt rfl ?_ |refine wk0 ?_ |refine rg rfl rfl (fun K hK=>?_) |((first |refine ae ?_ |refine ac ?_);simp(disch:=decide) only[qs,qb,if_true,if_false,reduceIte]) |refine ah rfl (fun K hK=>?_) |refine ct rfl ?_ |((try simp(disch:=omega) only[go_sem,ξ,ζ]);(first |apply hK |(clear hK;apply hK) |(clear hK;clear hK;apply hK));clear hK;(try clear K);(try dsimp only[ag,qs,qb])))
  refine cN rfl rfl rfl rfl (by exact gm hv0 hw0 g) ?_;rintro v1 h1 s1 q1;unfold zRI at q1;subst q1
  repeat (first |(refine wo rfl (fun k hk=>?_);simp(disch:=omega) only[go_sem,ξ,ζ];apply hk;clear hk k) |refine wkt rfl ?_ |refine wk0 ?_ |refine rg rfl rfl (fun K hK=>?_) |((first |refine ae ?_ |refine ac ?_);simp(disch:=decide) only[qs,qb,if_true,if_false,reduceIte]) |refine ah rfl (fun K hK=>?_) |refine ct rfl ?_ |((try simp(disch:=omega) only[go_sem,ξ,ζ]);(first |apply hK |(clear hK;apply hK) |(clear hK;clear hK;apply hK));clear hK;(try clear K);(try dsimp only[ag,qs,qb])))
  refine ai ?_;simp(disch:=omega) only[go_sem,ξ,ζ]
  all_goals rfl
 | false=>
  obtain⟨g1,g2⟩:=Bool.or_eq_false_iff.1 g
  cases gp:bad p with
  | true=>
   refine Spec.enter (args:=[_,_,_]) (n:=31) Tryz.func142 rfl (by kernel_rfl) rfl (by simp) [.cell 6 35,.tmp 7] rfl (fun C _=>?_)
   repeat (first |(refine wo rfl (fun k hk=>?_);simp(disch:=omega) only[go_sem,ξ,ζ];apply hk;clear hk k) |refine wkt rfl ?_ |refine wk0 ?_ |refine rg rfl rfl (fun K hK=>?_) |((first |refine ae ?_ |refine ac ?_);simp(disch:=decide) only[qs,qb,if_true,if_false,reduceIte]) |refine ah rfl (fun K hK=>?_) |refine ct rfl ?_ |((try simp(disch:=omega) only[go_sem,ξ,ζ]);(first |apply hK |(clear hK;apply hK) |(clear hK;clear hK;apply hK));clear hK;(try clear K);(try dsimp only[ag,qs,qb])))
   refine cN rfl rfl rfl rfl (by exact pb hv0 hw0 g1 g2 gp) ?_;rintro v1 h1 s1 q1;unfold zRI at q1;subst q1
   repeat (first |(refine wo rfl (fun k hk=>?_);simp(disch:=omega) only[go_sem,ξ,ζ];apply hk;clear hk k) |refine wkt rfl ?_ |refine wk0 ?_ |refine rg rfl rfl (fun K hK=>?_) |((first |refine ae ?_ |refine ac ?_);simp(disch:=decide) only[qs,qb,if_true,if_false,reduceIte]) |refine ah rfl (fun K hK=>?_) |refine ct rfl ?_ |((try simp(disch:=omega) only[go_sem,ξ,ζ]);(first |apply hK |(clear hK;apply hK) |(clear hK;clear hK;apply hK));clear hK;(try clear K);(try dsimp only[ag,qs,qb])))
   refine ai ?_;simp(disch:=omega) only[go_sem,ξ,ζ]
   all_goals rfl
  | false=>
   simp only[cond_false]
   refine Spec.enter (args:=[_,_,_]) (n:=31) Tryz.func142 rfl (by kernel_rfl) rfl (by simp) [.cell 6 35,.tmp 7] rfl (fun C _=>?_)
   repeat (first |(refine wo rfl (fun k hk=>?_);simp(disch:=omega) only[go_sem,ξ,ζ];apply hk;clear hk k) |refine wkt rfl ?_ |refine wk0 ?_ |refine rg rfl rfl (fun K hK=>?_) |((first |refine ae ?_ |refine ac ?_);simp(disch:=decide) only[qs,qb,if_true,if_false,reduceIte]) |refine ah rfl (fun K hK=>?_) |refine ct rfl ?_ |((try simp(disch:=omega) only[go_sem,ξ,ζ]);(first |apply hK |(clear hK;apply hK) |(clear hK;clear hK;apply hK));clear hK;(try clear K);(try dsimp only[ag,qs,qb])))
   refine cN rfl rfl rfl rfl (by exact iJ hv0 hw0 g1 g2 gp) ?_;rintro v1 h1 s1 q1;obtain⟨_,_,rfl,q2,q3⟩:=q1;have q2':=q2;have q3':=q3;obtain⟨_,_,_,_,_,_,_,_,_,_,_,_,_,_,rfl,_,_⟩:=q2.sa;obtain⟨_,_,_,_,_,_,_,_,_,_,_,_,_,_,rfl,_,_⟩:=q3.sa
   repeat (first |(refine wo rfl (fun k hk=>?_);simp(disch:=omega) only[go_sem,ξ,ζ];apply hk;clear hk k) |refine wkt rfl ?_ |refine wk0 ?_ |refine rg rfl rfl (fun K hK=>?_) |((first |refine ae ?_ |refine ac ?_);simp(disch:=decide) only[qs,qb,if_true,if_false,reduceIte]) |refine ah rfl (fun K hK=>?_) |refine ct rfl ?_ |((try simp(disch:=omega) only[go_sem,ξ,ζ]);(first |apply hK |(clear hK;apply hK) |(clear hK;clear hK;apply hK));clear hK;(try clear K);(try dsimp only[ag,qs,qb])))
   refine cN rfl rfl rfl rfl (by exact CN q2' q3' (RI.le g1) (RI.le g2)) ?_;rintro v2 h2 st_h2 f2;obtain⟨v2_0,v2_1,v2_2,v2_3,v2_4,v2_5,v2_6,v2_7,v2_8,v2_9,v2_10,v2_11,v2_12,v2_13,rfl,f2⟩:=f2.sa;(repeat (first |(refine wo rfl (fun k hk=>?_);simp(disch:=omega) only[go_sem,ξ,ζ];apply hk;clear hk k) |refine wkt rfl ?_));(try refine wk0 ?_)
   refine cN rfl rfl rfl rfl (by exact jb f2 ((fK (RI.le g1) (RI.le g2)).2.up (by decide)) (jt gp)) ?_;rintro v3 h3 st_h3 f3;obtain⟨v3_0,v3_1,v3_2,v3_3,v3_4,v3_5,v3_6,v3_7,v3_8,v3_9,v3_10,v3_11,v3_12,v3_13,rfl,f3⟩:=f3.sa;(repeat (first |(refine wo rfl (fun k hk=>?_);simp(disch:=omega) only[go_sem,ξ,ζ];apply hk;clear hk k) |refine wkt rfl ?_));(try refine wk0 ?_)
   refine cN rfl rfl rfl rfl (by exact iI f3) ?_;rintro r4 h4 st_h4 hr4;obtain⟨r4_0,r4_1,r4_2,r4_3,r4_4,r4_5,r4_6,r4_7,r4_8,r4_9,r4_10,r4_11,r4_12,r4_13,r4_14,r4_15,r4_16,rfl,hr4⟩:=hr4.sa
   repeat (first |(refine wo rfl (fun k hk=>?_);simp(disch:=omega) only[go_sem,ξ,ζ];apply hk;clear hk k) |refine wkt rfl ?_ |refine wk0 ?_ |refine rg rfl rfl (fun K hK=>?_) |((first |refine ae ?_ |refine ac ?_);simp(disch:=decide) only[qs,qb,if_true,if_false,reduceIte]) |refine ah rfl (fun K hK=>?_) |refine ct rfl ?_ |((try simp(disch:=omega) only[go_sem,ξ,ζ]);(first |apply hK |(clear hK;apply hK) |(clear hK;clear hK;apply hK));clear hK;(try clear K);(try dsimp only[ag,qs,qb])))
   refine ai ?_;simp(disch:=omega) only[go_sem,ξ,ζ]
   exact hr4
open Go.Proofs Go.RowKit
attribute [local go_sem] Oper.semAt_some
section
variable {F:Fence} {n:Nat} {P:Program} {Q:Exit→Act→World→Prop} {o:Oper} {a:Act} {w:World} {K:Act→World→Prop}
end
theorem cellB {w w':World} (hb:Below w.heap.size w w') {a:Addr} {v:Value} (h:w.cell? a=some v):w'.cell? a=some v:=(hb.cell (World.block_lt_of_cell? w a h)).trans h
theorem c8 {w:World} {b o:Nat} {v0 v1 v2 v3 v4 v5 v6 v7:Value} (h:∀(t:Nat) u,([v0,v1,v2,v3,v4,v5,v6,v7]:List Value)[t]?=some u→w.cell? ⟨b,o+t,none⟩=some u):w.cell? ⟨b,o,none⟩=some v0∧w.cell? ⟨b,o+1,none⟩=some v1∧w.cell? ⟨b,o+2,none⟩=some v2∧w.cell? ⟨b,o+3,none⟩=some v3∧w.cell? ⟨b,o+4,none⟩=some v4∧w.cell? ⟨b,o+5,none⟩=some v5∧w.cell? ⟨b,o+6,none⟩=some v6∧w.cell? ⟨b,o+7,none⟩=some v7:=
 ⟨h 0 _ rfl,h 1 _ rfl,h 2 _ rfl,h 3 _ rfl,h 4 _ rfl,h 5 _ rfl,h 6 _ rfl,h 7 _ rfl⟩
theorem Kx.below {n:Nat} {g:Nat→Nat} {A B C:World} (h:Kx n g A B) (k:Below B.heap.size B C):Kx n g A C:=h.trans (Kx.of_below k)
theorem Kx.put {n:Nat} {g:Nat→Nat} {A B C:World} {b:Nat} (h:Kx n g A B) (k:B.grownBy C (some b)) (hb:A.heap.size≤b∨∃i,i < n∧b=g i):Kx n g A C:=
 ⟨k.os.trans h.os,k.tape.trans h.tape,k.output.trans h.output,χ h.size k.size,fun c hc hn=>(k.block c (Nat.lt_of_lt_of_le hc h.size) (fun e=>by
  obtain rfl:c=b:=Option.some.inj e
  rcases hb with q |⟨i,q1,q2⟩
  ·omega
  ·exact hn i q1 q2)).trans (h.block c hc hn)⟩
section
variable {W0:World} {h0:PH} {WB off n:Nat} {g cp:Nat→Nat} {M:Nat→Nat→RI} {W:World} {hp:PH}
end
def Enz (o:Out):Prop:=∀e,o=.error e→e≠0
theorem prec_nz {p:Int} {o:Out} (h:Enz o):Enz (Out.prec p o):=fun e he=>by
 unfold Out.prec at he
 cases g:bad p with
 |true=>rw[g] at he;cases he;decide
 |false=>rw[g] at he;exact h e he
theorem rnd_nz {p:Int} {x y:NS} {o:Out} (h:Enz o):Enz (rnd p x y o):=prec_nz fun e he=>by
 cases g:(x.void || y.void) with
 |true=>rw[g] at he;cases he
 | false=>
  rw[g] at he
  cases o with
  |error e'=>cases he;exact h _ rfl
  |ok z=>cases he
theorem fin2_nz {x y:RI} {o:Out} (h:Enz o):Enz (x.fin2 y o):=fun e he=>by
 unfold RI.fin2 at he
 cases g:(x.big || y.big) with
 |true=>rw[g] at he;cases he;decide
 | false=>
  rw[g,cond_false] at he
  cases o with
  |error e'=>cases he;exact h _ rfl
  | ok z=>
   unfold Out.fin at he
   dsimp only at he
   cases g:decide (z.le 2048) with
   |true=>rw[g] at he;cases he
   |false=>rw[g] at he;cases he;decide
theorem mulE_nz {p:Int} {x y:RI}:Enz (mulE p x y):=fin2_nz (rnd_nz fun e he=>by cases he)
theorem Ir.bad {h:PH} {u:Value} {e:Int} {o:Out} (k:Ir h (.tuple #[u,.int .i64 e]) o) (he:e≠0):okE o=false:=by
 cases o with
 |error e'=>rfl
 |ok z=>obtain⟨_,e1,_⟩:=k;simp at e1;exact absurd e1.2 he
theorem Iv.e8 {h:PH} {l:List Value} {x:RI} (r:Iv h (.agg l.toArray) x):l.length=8∧l.all Value.oneCell'=true:=by
 obtain⟨_,_,_,_,_,_,_,_,_,_,_,_,e,_,_⟩:=r.sa
 have e:l=_:=congrArg Array.toList (Value.agg.inj e)
 subst e;exact⟨rfl,rfl⟩

open Go.Proofs Go.RowKit
open Classical in
section
variable {w:World} {h:PH} {WB off n:Nat} {g cp:Nat→Nat} {M:Nat→Nat→RI} {W:World} {hp:PH}
end
section
variable {w:World} {h:PH} {n WB:Nat} {T E:TypeId} {M:Nat→Nat→RI} {i:Nat} {row:List RI} {W:World} {hp:PH} {g cp:Nat→Nat} {v:Value}
end
open Go.Proofs Go.Proofs.YtgmcchhklbeckaaGreatDoor
open Go.ChangeShapes Go.WideShapes Go.ChangeAt Go.RowKit
theorem at_spot {h:PH} {a:Addr} {v:Value} (h1:h.at a=some v):a=⟨a.block,a.off,none⟩:=by
 cases a with
 | mk b o s=>
  cases s with
  |none=>rfl
  |some q=>simp[PH.at] at h1
theorem adr0 (a:Addr):a.add 0=a:=by unfold Addr.add;rw[if_pos rfl]
theorem adrN (b o k:Nat):(⟨b,o,none⟩:Addr).add k=⟨b,o+k,none⟩:=by
 unfold Addr.add
 split<;>simp_all
section
variable {H:Type} {enc:TypeId×Value→H} {W:World} {sp:Nat→Bool} {held:Bool}
end
def okS (l:List Sd1) (i:Nat):Bool:=match l[i]? with
 | some x=>nameB x.1 && (decide (i=0) || (match l[i - 1]? with
  |some y=>Op.bytesLess y.1.toList x.1.toList
  |none=>true)) && !x.2.big && !x.2.set.void
 |none=>true
def okB (l:List Sd1):Bool:=decide (l.length≤6) && (List.range l.length).all (okS l)
theorem okB_no {l:List Sd1} {i:Nat} (hi:i < l.length) (h:okS l i=false):okB l=false:=by
 unfold okB
 rw[Bool.and_eq_false_iff]
 right
 exact List.all_eq_false.2 ⟨i,List.mem_range.2 hi,by rw[h];decide⟩
theorem okB_yes {l:List Sd1} (hl:l.length≤6) (h:∀j,j < l.length→okS l j=true):okB l=true:=by
 unfold okB
 rw[decide_eq_true hl,Bool.true_and]
 exact qBd.2 fun j hj=>h j (List.mem_range.1 hj)
theorem BValid_spec {h0 h:PH} [Le h0 h] {v:Value} {l:List Sd1} (hv:Boxv h0 v l):Spec mach 8 #[v] h (fun r _=>r=.bool (okB l)) NP:=by
  obtain⟨a,c,rfl,hl,k⟩:=hv
  by_cases h6:(l.length:Int) > 6
  · have:okB l=false:=by unfold okB;rw[decide_eq_false (by omega)];rfl
    rw[this]
    refine Spec.go [] Tryz.func8 rfl rfl (by kernel_rfl) fun C _=>?_
    try simp(disch:=omega) only[go_sem,ξ,ζ,h6,decide_true]
  · refine Spec.go [] Tryz.func8 rfl rfl (by kernel_rfl) fun C _=>?_
    try simp(disch:=omega) only[go_sem,ξ,ζ,h6,decide_false]
    refine lp [] (fun i:Nat=>⟨[(0,.v (.slice a l.length c)),(10,.v (.slice a l.length c)),(11,.v (.int .i64 l.length)),(12,.v (.int .i64 i))],[]⟩) (fun i h'=>Le h0 h'∧i≤l.length∧∀j,j < i→okS l j=true) (fun i=>l.length - i) 0 ?_ ⟨inferInstance,qBh _,fun j hj=>absurd hj (by omega)⟩ (by kernel_rfl) ?_
    · try simp(disch:=omega) only[go_sem,ξ,ζ]
      all_goals rfl
    rintro i h2 ⟨le2,hi,hj⟩
    by_cases hlt:(i:Int) < l.length
    · obtain⟨x,hx⟩:∃x,l[i]?=some x:=⟨_,List.getElem?_eq_getElem (by omega)⟩
      obtain⟨ad,b1,a1,m1,c1,a2,m2,c2,b2,a3,m3,c3,a4,m4,c4,e,u,rfl,hat,hiv⟩:=k i x hx
      try simp(disch:=omega) only[go_sem,ξ,ζ,hlt,decide_true]
      refine Exists.intro [_,_,_,_,_,_,_,_,_] (And.intro rfl (And.intro (fun j v hj=>le2.sub.at (hat j v hj)) ?_))
      try simp(disch:=omega) only[go_sem,ξ,ζ]
      refine caN (by exact IsName_spec) ?_;rintro v3 h3 s3 rfl
      try simp(disch:=omega) only[go_sem,ξ,ζ]
      have big:x.2.big=true→okS l i=false:=fun g=>by unfold okS;rw[hx];simp[g]
      have voi:x.2.set.void=true→okS l i=false:=fun g=>by unfold okS;rw[hx];simp[g]
      have nam:nameB x.1=false→okS l i=false:=fun g=>by unfold okS;rw[hx];simp[g]
      have hi':i < l.length:=by omega
      cases hn:nameB x.1 with
      | false=>
        rw[okB_no hi' (nam hn)]
        try simp(disch:=omega) only[go_sem,ξ,ζ,hn]
      | true=>
        have kE:=fun {h} [Le h2 h]=>sI (h:=h) (hiv.to (h':=h2))
        unfold RI.bo at kE
        have nxt:(decide (i=0) || (match l[i - 1]? with |some y=>Op.bytesLess y.1.toList x.1.toList |none=>true))=true→x.2.big=false→x.2.set.void=false→okS l i=true:=fun g1 g2 g3=>by
          unfold okS;rw[hx]
          show(nameB x.1 && _ && _ && _)=true
          rw[hn,g1,g2,g3];rfl
        by_cases i0:(i:Int) > 0
        · obtain⟨y,hy⟩:∃y,l[i - 1]?=some y:=⟨_,List.getElem?_eq_getElem (by omega)⟩
          obtain⟨ad',_,_,_,_,_,_,_,_,_,_,_,_,_,_,_,_,ea,hat',_⟩:=k (i - 1) y hy
          cases ea
          have hyat:h0.at (ad.add ((i - 1)*9))=some (.string y.1):=hat' 0 _ rfl
          have ew:((i:Int) - 1).toNat=i - 1:=by omega
          try simp(disch:=omega) only[go_sem,ξ,ζ,hn,i0,decide_true,ew]
          refine aE ((inferInstance:Le h0 h3).sub.at hyat) ?_
          try simp(disch:=omega) only[go_sem,ξ,ζ]
          cases hB:Op.bytesLess y.1.toList x.1.toList with
          | false=>
            rw[okB_no hi' (by unfold okS;rw[hx];simp only[hy,hB];rw[decide_eq_false (by omega)];simp)]
            try simp(disch:=omega) only[go_sem,ξ,ζ,hB]
          | true=>
            try simp(disch:=omega) only[go_sem,ξ,ζ,hB]
            cases gb:x.2.big with
            | true=>
              rw[gb,cond_true] at kE
              rw[okB_no hi' (big gb)]
              refine caN (by exact kE) ?_;rintro v4 h4 s4 q4;obtain rfl:v4=_:=q4
              try simp(disch:=omega) only[go_sem,ξ,ζ]
            | false =>
              rw[gb,cond_false] at kE
              cases gv:x.2.set.void with
              | true=>
                rw[gv] at kE
                rw[okB_no hi' (voi gv)]
                refine caN (by exact kE) ?_;rintro v4 h4 s4 q4;obtain rfl:v4=_:=q4
                try simp(disch:=omega) only[go_sem,ξ,ζ]
              | false=>
                rw[gv] at kE
                refine caN (by exact kE) ?_;rintro v4 h4 s4 q4;obtain rfl:v4=_:=q4
                try simp(disch:=omega) only[go_sem,ξ,ζ]
                dsimp only[lpE];refine⟨i+1,?_,⟨inferInstance,by omega,fun j k=>?_⟩,by omega⟩
                · try simp(disch:=omega) only[go_sem,ξ,ζ]
                  all_goals rfl
                · rcases qBj j i with g |g
                  · exact hj j g
                  · obtain rfl:j=i:=by omega
                    exact nxt (by rw[hy];simp[hB]) gb gv
        · try simp(disch:=omega) only[go_sem,ξ,ζ,hn,i0,decide_false]
          cases gb:x.2.big with
          | true=>
            rw[gb,cond_true] at kE
            rw[okB_no hi' (big gb)]
            refine caN (by exact kE) ?_;rintro v4 h4 s4 q4;obtain rfl:v4=_:=q4
            try simp(disch:=omega) only[go_sem,ξ,ζ]
          | false =>
            rw[gb,cond_false] at kE
            cases gv:x.2.set.void with
            | true=>
              rw[gv] at kE
              rw[okB_no hi' (voi gv)]
              refine caN (by exact kE) ?_;rintro v4 h4 s4 q4;obtain rfl:v4=_:=q4
              try simp(disch:=omega) only[go_sem,ξ,ζ]
            | false=>
              rw[gv] at kE
              refine caN (by exact kE) ?_;rintro v4 h4 s4 q4;obtain rfl:v4=_:=q4
              try simp(disch:=omega) only[go_sem,ξ,ζ]
              dsimp only[lpE];refine⟨i+1,?_,⟨inferInstance,by omega,fun j k=>?_⟩,by omega⟩
              · try simp(disch:=omega) only[go_sem,ξ,ζ]
                all_goals rfl
              · rcases qBj j i with g |g
                · exact hj j g
                · obtain rfl:j=i:=by omega
                  exact nxt (by rw[decide_eq_true (by omega)];rfl) gb gv
    · rw[okB_yes (by omega) (fun j k=>hj j (by omega))]
      try simp(disch:=omega) only[go_sem,ξ,ζ,hlt,decide_false]
theorem RBValid_spec {h0 h:PH} [Le h0 h] {v:Value} {l:List Sd1} (hv:Boxv h0 v l):Spec mach 33 #[v] h (fun r _=>r=.bool (okB l)) NP:=by
  obtain⟨a,c,rfl,hl,k⟩:=hv
  by_cases h6:(l.length:Int) > 6
  · have:okB l=false:=by unfold okB;rw[decide_eq_false (by omega)];rfl
    rw[this]
    refine Spec.go [] Tryz.func33 rfl rfl (by kernel_rfl) fun C _=>?_
    try simp(disch:=omega) only[go_sem,ξ,ζ,h6,decide_true]
  · refine Spec.go [] Tryz.func33 rfl rfl (by kernel_rfl) fun C _=>?_
    try simp(disch:=omega) only[go_sem,ξ,ζ,h6,decide_false]
    refine lp [] (fun i:Nat=>⟨[(0,.v (.slice a l.length c)),(8,.v (.slice a l.length c)),(9,.v (.int .i64 l.length)),(10,.v (.int .i64 i))],[]⟩) (fun i h'=>Le h0 h'∧i≤l.length∧∀j,j < i→okS l j=true) (fun i=>l.length - i) 0 ?_ ⟨inferInstance,qBh _,fun j hj=>absurd hj (by omega)⟩ (by kernel_rfl) ?_
    · try simp(disch:=omega) only[go_sem,ξ,ζ]
      all_goals rfl
    rintro i h2 ⟨le2,hi,hj⟩
    by_cases hlt:(i:Int) < l.length
    · obtain⟨x,hx⟩:∃x,l[i]?=some x:=⟨_,List.getElem?_eq_getElem (by omega)⟩
      obtain⟨ad,b1,a1,m1,c1,a2,m2,c2,b2,a3,m3,c3,a4,m4,c4,e,u,rfl,hat,hiv⟩:=k i x hx
      try simp(disch:=omega) only[go_sem,ξ,ζ,hlt,decide_true]
      refine Exists.intro [_,_,_,_,_,_,_,_,_] (And.intro rfl (And.intro (fun j v hj=>le2.sub.at (hat j v hj)) ?_))
      try simp(disch:=omega) only[go_sem,ξ,ζ]
      refine caN (by exact RIsName_spec) ?_;rintro v3 h3 s3 rfl
      try simp(disch:=omega) only[go_sem,ξ,ζ]
      have big:x.2.big=true→okS l i=false:=fun g=>by unfold okS;rw[hx];simp[g]
      have voi:x.2.set.void=true→okS l i=false:=fun g=>by unfold okS;rw[hx];simp[g]
      have nam:nameB x.1=false→okS l i=false:=fun g=>by unfold okS;rw[hx];simp[g]
      have hi':i < l.length:=by omega
      cases hn:nameB x.1 with
      | false=>
        rw[okB_no hi' (nam hn)]
        try simp(disch:=omega) only[go_sem,ξ,ζ,hn]
      | true=>
        have kL:=fun {h} [Le h2 h]=>eZ (h:=h) (hiv.to (h':=h2))
        have nxt:(decide (i=0) || (match l[i - 1]? with |some y=>Op.bytesLess y.1.toList x.1.toList |none=>true))=true→x.2.big=false→x.2.set.void=false→okS l i=true:=fun g1 g2 g3=>by
          unfold okS;rw[hx]
          show(nameB x.1 && _ && _ && _)=true
          rw[hn,g1,g2,g3];rfl
        by_cases i0:(i:Int) > 0
        · obtain⟨y,hy⟩:∃y,l[i - 1]?=some y:=⟨_,List.getElem?_eq_getElem (by omega)⟩
          obtain⟨ad',_,_,_,_,_,_,_,_,_,_,_,_,_,_,_,_,ea,hat',_⟩:=k (i - 1) y hy
          cases ea
          have hyat:h0.at (ad.add ((i - 1)*9))=some (.string y.1):=hat' 0 _ rfl
          have ew:((i:Int) - 1).toNat=i - 1:=by omega
          try simp(disch:=omega) only[go_sem,ξ,ζ,hn,i0,decide_true,ew]
          refine aE ((inferInstance:Le h0 h3).sub.at hyat) ?_
          try simp(disch:=omega) only[go_sem,ξ,ζ]
          cases hB:Op.bytesLess y.1.toList x.1.toList with
          | false=>
            rw[okB_no hi' (by unfold okS;rw[hx];simp only[hy,hB];rw[decide_eq_false (by omega)];simp)]
            try simp(disch:=omega) only[go_sem,ξ,ζ,hB]
          | true=>
            try simp(disch:=omega) only[go_sem,ξ,ζ,hB]
            refine caN (by exact kL) ?_;rintro v4 h4 s4 rfl
            try simp(disch:=omega) only[go_sem,ξ,ζ]
            cases gb:x.2.big with
            | true=>
              rw[okB_no hi' (big gb)]
              try simp(disch:=omega) only[go_sem,ξ,ζ,gb]
            | false =>
              try simp(disch:=omega) only[go_sem,ξ,ζ,gb]
              refine caN (by exact RefOf (hiv.to (h':=h4)) gb) ?_;rintro v5 h5 s5 q5;obtain⟨_,_,_,_,_,_,_,_,_,_,_,_,_,_,rfl,_⟩:=q5.sa
              try simp(disch:=omega) only[go_sem,ξ,ζ]
              cases gv:x.2.set.void with
              | true=>
                rw[okB_no hi' (voi gv)]
                try simp(disch:=omega) only[go_sem,ξ,ζ,gv]
              | false=>
                try simp(disch:=omega) only[go_sem,ξ,ζ,gv]
                dsimp only[lpE];refine⟨i+1,?_,⟨inferInstance,by omega,fun j k=>?_⟩,by omega⟩
                · try simp(disch:=omega) only[go_sem,ξ,ζ]
                  all_goals rfl
                · rcases qBj j i with g |g
                  · exact hj j g
                  · obtain rfl:j=i:=by omega
                    exact nxt (by rw[hy];simp[hB]) gb gv
        · try simp(disch:=omega) only[go_sem,ξ,ζ,hn,i0,decide_false]
          refine caN (by exact kL) ?_;rintro v4 h4 s4 rfl
          try simp(disch:=omega) only[go_sem,ξ,ζ]
          cases gb:x.2.big with
          | true=>
            rw[okB_no hi' (big gb)]
            try simp(disch:=omega) only[go_sem,ξ,ζ,gb]
          | false =>
            try simp(disch:=omega) only[go_sem,ξ,ζ,gb]
            refine caN (by exact RefOf (hiv.to (h':=h4)) gb) ?_;rintro v5 h5 s5 q5;obtain⟨_,_,_,_,_,_,_,_,_,_,_,_,_,_,rfl,_⟩:=q5.sa
            try simp(disch:=omega) only[go_sem,ξ,ζ]
            cases gv:x.2.set.void with
            | true=>
              rw[okB_no hi' (voi gv)]
              try simp(disch:=omega) only[go_sem,ξ,ζ,gv]
            | false=>
              try simp(disch:=omega) only[go_sem,ξ,ζ,gv]
              dsimp only[lpE];refine⟨i+1,?_,⟨inferInstance,by omega,fun j k=>?_⟩,by omega⟩
              · try simp(disch:=omega) only[go_sem,ξ,ζ]
                all_goals rfl
              · rcases qBj j i with g |g
                · exact hj j g
                · obtain rfl:j=i:=by omega
                  exact nxt (by rw[decide_eq_true (by omega)];rfl) gb gv
    · rw[okB_yes (by omega) (fun j k=>hj j (by omega))]
      try simp(disch:=omega) only[go_sem,ξ,ζ,hlt,decide_false]


theorem N32.rw {h:PH} {neg:Bool} {v w:Value} {n d:Nat} (hv:N32 h v n) (hw:N32 h w d) (bn:bl n≤2^30) (bd:bl d≤2^30):Rw h (.agg #[.bool neg,v,w]) neg n d:=by
 obtain⟨a,c,xs,rfl,ha,hx,rfl⟩:=hv.out
 obtain⟨a',c',ys,rfl,ha',hy,rfl⟩:=hw.out
 have l1:=dj (val 4294967296 xs)
 have l2:=dj (val 4294967296 ys)
 rw[hx] at l1
 rw[hy] at l2
 exact⟨a,c,xs,a',c',ys,rfl,ha,ha',rfl,rfl,by omega,by omega⟩
theorem rH {h0 h:PH} [Le h0 h] {v:Value} {n:Nat} (hv:N32 h0 v n):Spec mach 116 #[v] h (fun v h'=>N32 h' v n) NP:=by
 obtain⟨a,c,xs,rfl,ha,_,rfl⟩:=hv.out
 exact Of_N ha
theorem nameX:nameB ⟨#[120]⟩=true:=by decide+kernel
theorem Kids_x {h:PH}:Spec mach 219 #[.int .i64 2] h (fun v _=>v=.tuple #[.int .i64 0,.bool true]) NP:=by
 refine Spec.go [] Tryz.func219 rfl rfl (by kernel_rfl) fun C _=>?_
 try simp(maxSteps:=999999) (disch:=omega) only[go_sem,ξ,ζ]
theorem Kids_a {h:PH}:Spec mach 219 #[.int .i64 5] h (fun v _=>v=.tuple #[.int .i64 2,.bool true]) NP:=by
 refine Spec.go [] Tryz.func219 rfl rfl (by kernel_rfl) fun C _=>?_
 try simp(maxSteps:=999999) (disch:=omega) only[go_sem,ξ,ζ]
theorem Fields_x {h:PH}:Spec mach 153 #[exXv] h (fun v _=>v=.bool true) NP:=by
 unfold exXv
 refine Spec.go [] Tryz.func153 rfl rfl (by kernel_rfl) fun C _=>?_
 try simp(maxSteps:=999999) (disch:=omega) only[go_sem,ξ,ζ]
 refine caN (by exact Kids_x) ?_;rintro v1 h1 s1 rfl
 try simp(maxSteps:=999999) (disch:=omega) only[go_sem,ξ,ζ]
 refine caN (by exact IsName_spec) ?_;rintro v2 h2 s2 rfl
 try simp(maxSteps:=999999) (disch:=omega) only[go_sem,ξ,ζ,nameX]
 refine caN (by exact rH (N32.zero h2)) ?_;rintro v3 h3 s3 q3
 try simp(maxSteps:=999999) (disch:=omega) only[go_sem,ξ,ζ]
 refine caN (by exact bU q3) ?_;rintro v4 h4 s4 rfl
 try simp(maxSteps:=999999) (disch:=omega) only[go_sem,ξ,ζ]
 all_goals rfl
theorem Fields_a {h:PH} {b:Nat}:Spec mach 153 #[exAv b] h (fun v _=>v=.bool true) NP:=by
 unfold exAv
 refine Spec.go [] Tryz.func153 rfl rfl (by kernel_rfl) fun C _=>?_
 try simp(maxSteps:=999999) (disch:=omega) only[go_sem,ξ,ζ]
 refine caN (by exact Kids_a) ?_;rintro v1 h1 s1 rfl
 try simp(maxSteps:=999999) (disch:=omega) only[go_sem,ξ,ζ,beq_self_eq_true]
 refine caN (by exact rH (N32.zero h1)) ?_;rintro v3 h3 s3 q3
 try simp(maxSteps:=999999) (disch:=omega) only[go_sem,ξ,ζ]
 refine caN (by exact bU q3) ?_;rintro v4 h4 s4 rfl
 try simp(maxSteps:=999999) (disch:=omega) only[go_sem,ξ,ζ]
 all_goals rfl
theorem Count_x {h:PH} {d n:Int} (hd:0≤d∧d≤30) (hn:0≤n∧n < 300):Spec mach 89 #[exXv,.int .i64 d,.int .i64 n] h (fun v _=>v=.int .i64 (n+1)) NP:=by
 have k:=fun {h:PH}=>Fields_x (h:=h)
 unfold exXv at k ⊢
 have e1:¬n+1 > 300:=by omega
 have e2:¬d > 30:=by omega
 refine Spec.go [] Tryz.func89 rfl rfl (by kernel_rfl) fun C _=>?_
 try simp(maxSteps:=999999) (disch:=omega) only[go_sem,ξ,ζ,e1,e2,decide_false]
 refine caN (by exact k) ?_;rintro v1 h1 s1 rfl
 try simp(maxSteps:=999999) (disch:=omega) only[go_sem,ξ,ζ]
 refine lp [] (fun _:Nat=>⟨[(2,.v (.int .i64 (n+1))),(24,.v (.int .i64 0)),(25,.v (.int .i64 0))],[]⟩) (fun _ _=>True) (fun _=>0) 0 ?_ trivial (by kernel_rfl) ?_
 ·try simp(maxSteps:=999999) (disch:=omega) only[go_sem,ξ,ζ]
  all_goals rfl
 rintro i h2 _
 try simp(maxSteps:=999999) (disch:=omega) only[go_sem,ξ,ζ]
theorem kC_at {h0:PH} {b:Nat} (hb:kC b h0):∀i,i < 2→∀(j:Nat) v,xC7[j]?=some v→h0.at ((⟨b,i*7,none⟩:Addr).add j)=some v:=fun i hi j v hv=>by
 have hj:j < 7:=(List.getElem?_eq_some_iff.1 hv).1
 unfold kC at hb
 have:(⟨b,i*7,none⟩:Addr).add j=⟨b,i*7+j,none⟩:=by
  unfold Addr.add;split
  ·rename_i e;rw[e];rfl
  ·rfl
 rw[this]
 have e:h0.at ⟨b,i*7+j,none⟩=(xC7 ++xC7)[i*7+j]?:=by simp[PH.at,hb]
 rw[e]
 rcases(show i=0∨i=1 by omega) with rfl |rfl
 ·rw[List.getElem?_append_left (by show 0*7+j < 7;omega)];simpa using hv
 ·rw[List.getElem?_append_right (by show 7≤1*7+j;omega)]
  show xC7[1*7+j - 7]?=_
  rw[show 1*7+j - 7=j by omega];exact hv
theorem Count_a {h0 h:PH} [Le h0 h] {b:Nat} (hb:kC b h0):Spec mach 89 #[exAv b,.int .i64 1,.int .i64 0] h (fun v _=>v=.int .i64 3) NP:=by
 have k:=fun {h:PH}=>Fields_a (h:=h) (b:=b)
 have hat:=kC_at hb
 unfold exAv at k ⊢
 refine Spec.go [] Tryz.func89 rfl rfl (by kernel_rfl) fun C _=>?_
 try simp(maxSteps:=999999) (disch:=omega) only[go_sem,ξ,ζ]
 refine caN (by exact k) ?_;rintro v1 h1 s1 rfl
 try simp(maxSteps:=999999) (disch:=omega) only[go_sem,ξ,ζ]
 refine lp [] (fun i:Nat=>⟨[(1,.v (.int .i64 1)),(2,.v (.int .i64 (i+1:Nat))),(23,.v (.slice (some ⟨b,0,none⟩) 2 2)),(24,.v (.int .i64 2)),(25,.v (.int .i64 i))],[]⟩) (fun i h'=>Le h0 h'∧i≤2) (fun i=>2 - i) 0 ?_ ⟨inferInstance,by decide⟩ (by kernel_rfl) ?_
 ·try simp(maxSteps:=999999) (disch:=omega) only[go_sem,ξ,ζ]
  all_goals (constructor<;>rfl)
 rintro i h2 ⟨le2,hi⟩
 by_cases hl:(i:Int) < 2
 ·have kx:=fun {h:PH}=>Count_x (h:=h) (d:=2) (n:=(i+1:Nat)) (by omega) (by omega)
  unfold exXv at kx
  have e3:¬((i+1:Nat):Int)+1 > 300:=by omega
  try simp(maxSteps:=999999) (disch:=omega) only[go_sem,ξ,ζ,hl,decide_true]
  refine Exists.intro [.int .i64 2,.int .i64 0,.bool false,.slice none 0 0,.slice none 0 0,.string ⟨#[120]⟩,.slice none 0 0] (And.intro rfl (And.intro (fun j v hj=>le2.sub.at (hat i (by omega) j v hj)) ?_))
  try simp(maxSteps:=999999) (disch:=omega) only[go_sem,ξ,ζ]
  refine caN (by exact kx) ?_;rintro v3 h3 s3 rfl
  try simp(maxSteps:=999999) (disch:=omega) only[go_sem,ξ,ζ,e3,decide_false]
  dsimp only[lpE];refine⟨i+1,?_,⟨inferInstance,by omega⟩,by omega⟩
  try simp(maxSteps:=999999) (disch:=omega) only[go_sem,ξ,ζ]
  all_goals rfl
 ·have e:i=2:=by omega
  subst e
  try simp(maxSteps:=999999) (disch:=omega) only[go_sem,ξ,ζ,hl,decide_false]
  all_goals rfl
theorem EValid_spec {h0 h:PH} [Le h0 h] {b:Nat} (hb:kC b h0):Spec mach 52 #[exAv b] h (fun v _=>v=.bool true) NP:=by
 have k:=fun {h} [Le h0 h]=>Count_a (h:=h) hb
 unfold exAv at k ⊢
 refine Spec.go [] Tryz.func52 rfl rfl (by kernel_rfl) fun C _=>?_
 try simp(maxSteps:=999999) (disch:=omega) only[go_sem,ξ,ζ]
 refine caN (by exact k) ?_;rintro v1 h1 s1 rfl
 try simp(maxSteps:=999999) (disch:=omega) only[go_sem,ξ,ζ]
theorem zC {h:PH} {a:Option Addr} {m c n:Nat} (r:N32 h (.slice a m c) n) (h0:n≠0) (h1:n < 4294967296):m=1∧∃ad,a=some ad∧h.at ad=some (.int .u32 n):=by
 have hW:W 4294967296 n=[n]:=by
  rw[W_pos (by decide) h0,qBi h1,Nat.div_eq_of_lt h1,ff]
 obtain⟨a',c',e,A⟩:=r
 rw[hW] at e A
 simp only[Value.slice.injEq,List.length_cons,List.length_nil] at e
 obtain⟨rfl,rfl,rfl⟩:=e
 obtain⟨ad,e1,e2⟩:=A.at_ 0 n rfl
 refine⟨rfl,ad,e1,?_⟩
 simpa[Addr.add] using e2
theorem E4 {h:PH} {a:Option Addr} {m c:Nat} (r:N32 h (.slice a m c) 0):m=0:=by
 obtain⟨a',c',e,A⟩:=r
 rw[ff] at e
 simp only[Value.slice.injEq,List.length_nil] at e
 exact e.2.1
end Go.Q
namespace Go.Q
open Go.Proofs Go.RowKit
set_option maxRecDepth 100000
set_option maxHeartbeats 8000000
theorem Vars_spec {h0 h:PH} [l0:Le h0 h] {b:Nat} (hb:kC b h0):Spec mach 53 #[exAv b] h (fun r h'=>∃ad c,r=.tuple #[.slice (some ad) 1 c,.int .i64 0]∧h'.at ad=some (.string ⟨#[120]⟩)) NP:=by
 refine⟨by kernel_rfl,fun w hw hg=>?_⟩
 have hb1:h b=some (xC7 ++xC7).toArray:=l0.sub _ _ hb
 obtain⟨T,f,hk⟩:=hw _ _ hb1
 have kV:∀m W,Below w.heap.size w W→CallsIn Fence.wide m Tryz.prog 52 #[exAv b] W fun e W'=>e=.returned (.bool true)∧Below W.heap.size W W':=fun m W hB=>by
  refine callsIn_wide.2 (((EValid_spec (h:=h) hb).run W (hw.below hB) hg).mono fun e W' hp=>?_)
  cases e with
  |returned v=>obtain⟨h',p1,_,_,_,rfl⟩:=hp;exact⟨rfl,p1⟩
  |panicked ch=>obtain⟨_,_,_,_,_,hp⟩:=hp;exact(hp:False).elim
  |outgrown=>exact(hp:False).elim
 refine(callsIn_wide.1 (vars_in ⟨(Array.getElem?_eq_some_iff.1 hk).1,T,f,hk⟩ kV)).mono fun e w' hp=>?_
 obtain⟨v,rfl,hr,hB⟩:=hp
 rcases hr.2 with⟨_,h1⟩ |⟨g,cap,cur,rfl,hge,hh,hn,_,hs,ht⟩
 ·cases h1
 ·have hgn:h g=none:=by
   cases e:h g with
   |none=>rfl
   |some cs=>have:=hw.lt e;omega
  refine⟨fun k=>if k=g then some cur else h k,hB,fun k cs hx=>?_,fun k cs hx=>?_,fun k hx=>?_,⟨g,0,none⟩,cap,rfl,?_⟩
  ·have hx:(if k=g then some cur else h k)=some cs:=hx
   by_cases e:k=g
   ·rw[if_pos e] at hx;cases hx;exact⟨_,_,e▸hh⟩
   ·rw[if_neg e] at hx;exact(hw.below hB) _ _ hx
  ·show(if k=g then some cur else h k)=some cs
   rw[if_neg (fun e=>by rw[e,hgn] at hx;cases hx)];exact hx
  ·have hx:(if k=g then some cur else h k)≠none:=hx
   by_cases e:k=g
   ·exact .inr (e▸hge)
   ·rw[if_neg e] at hx;exact .inl hx
  ·have e0:cur[0]?=some (.string ⟨#[120]⟩):=by
    have:=congrArg (·[0]?) ht
    simpa using this
   unfold PH.at
   simp[e0]
def x01:RI:=⟨false,0,0,false,1,0,false,false⟩
def l01:List Sd1:=[(⟨#[120]⟩,x01)]
theorem l01_ok:okB l01=true:=by decide+kernel
theorem l01_fnd:fnd l01 ⟨#[120]⟩=some 0:=by decide+kernel
theorem Ready_spec {h0 h:PH} [Le h0 h] {v:Value} {b:Nat} (hb:kC b h0) (hv:Boxv h0 v l01):Spec mach 22 #[exAv b,v,.int .i64 2] h (fun r _=>r=.int .i64 0) NP:=by
 have kE:=fun {h} [Le h0 h]=>EValid_spec (h:=h) hb
 have kB:=fun {h} [Le h0 h]=>BValid_spec (h:=h) hv
 have kN:=fun {h} [Le h0 h]=>Vars_spec (h:=h) hb
 have kI:=fun {h} [Le h0 h]=>Index_spec (h:=h) (s:=⟨#[120]⟩) hv
 rw[l01_ok] at kB
 rw[l01_fnd] at kI
 obtain⟨va,vm,vc,rfl⟩:=hv.sa
 unfold exAv at kE kN ⊢
 refine Spec.go [] Tryz.func22 rfl rfl (by kernel_rfl) fun C _=>?_
 try simp(maxSteps:=999999) (disch:=omega) only[go_sem,ξ,ζ]
 refine caN (by exact kE) ?_;rintro v1 h1 s1 rfl
 try simp(maxSteps:=999999) (disch:=omega) only[go_sem,ξ,ζ]
 refine caN (by exact kB) ?_;rintro v2 h2 s2 rfl
 try simp(maxSteps:=999999) (disch:=omega) only[go_sem,ξ,ζ]
 refine caN (by exact kN) ?_;rintro v3 h3 s3 ⟨ad,c,rfl,hat⟩
 try simp(maxSteps:=999999) (disch:=omega) only[go_sem,ξ,ζ]
 refine lp [] (fun i:Nat=>⟨[(1,.v (.slice va vm vc)),(31,.v (.slice (some ad) 1 c)),(32,.v (.int .i64 1)),(33,.v (.int .i64 i))],[]⟩) (fun i h'=>Le h0 h'∧h'.at ad=some (.string ⟨#[120]⟩)∧i≤1) (fun i=>1 - i) 0 ?_ ⟨inferInstance,hat,by decide⟩ (by kernel_rfl) ?_
 ·try simp(maxSteps:=999999) (disch:=omega) only[go_sem,ξ,ζ]
  all_goals rfl
 rintro i h4 ⟨le4,hat4,hi⟩
 by_cases hl:(i:Int) < 1
 ·obtain rfl:i=0:=by omega
  try simp(maxSteps:=999999) (disch:=omega) only[go_sem,ξ,ζ]
  refine aE hat4 ?_
  try simp(maxSteps:=999999) (disch:=omega) only[go_sem,ξ,ζ]
  refine caN (by exact kI) ?_;rintro v5 h5 s5 rfl
  try simp(maxSteps:=999999) (disch:=omega) only[go_sem,ξ,ζ]
  dsimp only[lpE];refine⟨1,?_,⟨inferInstance,s5.sub.at hat4,by omega⟩,by omega⟩
  ·try simp(maxSteps:=999999) (disch:=omega) only[go_sem,ξ,ζ]
   all_goals rfl
 ·try simp(maxSteps:=999999) (disch:=omega) only[go_sem,ξ,ζ,hl,decide_false]
end Go.Q
