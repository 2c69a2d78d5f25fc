/-
  The range of x + x over [0, 1], and what stands on it. Conditions: each theorem's own.
-/
import Derived.Test.YtgmcchhklbeckaaGreatDoorKf08e96PkG
import Derived.Test.YtgmcchhklbeckaaGreatDoorK91bd4fPkQ
import Derived.Test.YtgmcchhklbeckaaGreatDoorKd810e4PkN
import Derived.Test.YtgmcchhklbeckaaGreatDoorKdab1e0PkO
import Derived.Test.YtgmcchhklbeckaaGreatDoorK710bc3PkZ
import Derived.Test.YtgmcchhklbeckaaGreatDoorK745974PkM
import Derived.Test.YtgmcchhklbeckaaGreatDoorKe1901fPkI
import Derived.Test.YtgmcchhklbeckaaGreatDoorKda9756PkA
import Derived.Test.YtgmcchhklbeckaaGreatDoorK3d7e20PkP
import Derived.Shelf.Abstract
import Derived.WalkKit
import Derived.OwnWalkIn
import Derived.TacticsInMore
import Derived.LoopNIn
import Derived.LoopIn
import Derived.Test.YtgmcchhklbeckaaGreatDoorK0ef115PkD
import Derived.Test.YtgmcchhklbeckaaGreatDoorK93e545PkK
set_option linter.unusedVariables false
set_option linter.unusedSimpArgs false
open Nat renaming reduceBEq→ξ,reduceAdd→ζ,le_trans→χ,le_refl→η,pow_succ→qAn,zero_le→qBh,lt_or_ge→qBj
open Bool renaming and_eq_true→φ
open Rat renaming le_trans→qAq,div_def→qAx,intCast_le_intCast→qBa,mul_inv_cancel→qBf
open List renaming getD_eq_getElem?_getD→qAy,all_eq_true→qBd
namespace Go.Q
open Go.Proofs Go.RowKit
set_option maxRecDepth 100000
set_option maxHeartbeats 8000000
theorem out01:x01.fin (Out.prec 2 (.ok (x01.set.hull (2:Int).toNat)))=.ok (.i (some 0) (some 1)):=by
 have e:x01.set=.i (some 0) (some 1):=by kernel_rfl
 have b:x01.big=false:=by decide+kernel
 have e1:gdown 0 2=0:=by decide+kernel
 have e2:gup 1 2=1:=by decide+kernel
 have e3:decide (NS.le 2048 (NS.i (some 0) (some 1)))=true:=by decide
 unfold RI.fin Out.prec
 rw[b,e]
 simp[NS.hull,bad,Out.fin,e1,e2,e3]
theorem out02:RI.fin2 (NS.i (some 0) (some 1)).ri (NS.i (some 0) (some 1)).ri (rnd 2 (NS.i (some 0) (some 1)).ri.set (NS.i (some 0) (some 1)).ri.set (.ok ((NS.i (some 0) (some 1)).ri.set.sum (NS.i (some 0) (some 1)).ri.set)))=.ok (.i (some 0) (some 2)):=by
 have l1:(NS.i (some 0) (some 1)).le 2048:=by decide
 have o1:(NS.i (some 0) (some 1)).ok:=by unfold NS.ok ordO;decide
 rw[NS.ri_set o1]
 unfold RI.fin2 rnd Out.prec
 rw[NS.ri_big l1]
 have e1:gdown (0+0) 2=0:=by decide+kernel
 have e2:gup (1+1) 2=2:=by decide+kernel
 have e3:decide (NS.le 2048 (NS.i (some 0) (some 2)))=true:=by decide
 simp[NS.sum,oadd,NS.void,bad,NS.hull,Out.fin,e1,e2,e3]
theorem Leaf_x {h0 h:PH} [Le h0 h] {v:Value} (hv:Boxv h0 v l01):Spec mach 55 #[exXv,v,.int .i64 2] h (fun r h'=>Ir h' r (.ok (.i (some 0) (some 1)))) NP:=by
 have kF:=fun {h} [Le h0 h]=>BFind_spec (h:=h) (s:=⟨#[120]⟩) hv
 unfold Fnd at kF
 rw[l01_fnd] at kF
 obtain⟨_,_,_,rfl⟩:=hv.sa
 unfold exXv
 refine Spec.go [] Tryz.func55 rfl rfl (by kernel_rfl) fun C _=>?_
 try simp(disch:=omega) only[go_sem,ξ,ζ]
 refine caN (by exact kF) ?_;rintro v1 h1 s1 ⟨v2,x2,e2,rfl,q2⟩;obtain rfl:x2=(⟨#[120]⟩,x01):=(by cases e2;rfl);obtain⟨_,_,_,_,_,_,_,_,_,_,_,_,rfl,_,_⟩:=q2.sa
 try simp(disch:=omega) only[go_sem,ξ,ζ]
 have kR:=fun {h} [Le h1 h]=>du (h:=h) (p:=2) q2
 rw[out01] at kR
 refine caN (by exact kR) ?_;rintro r h2 s2 r2;obtain⟨u,rfl,c2⟩:=r2;obtain⟨_,_,_,_,_,_,_,_,_,_,_,_,_,_,_,_,rfl,c3⟩:=c2.sa
 try simp(disch:=omega) only[go_sem,ξ,ζ]
 exact⟨_,rfl,c3⟩
theorem Eval_x {h0 h:PH} [Le h0 h] {v:Value} (hv:Boxv h0 v l01):Spec mach 23 #[exXv,v,.int .i64 2] h (fun r h'=>Ir h' r (.ok (.i (some 0) (some 1)))) NP:=by
 have kL:=fun {h} [Le h0 h]=>Leaf_x (h:=h) hv
 obtain⟨_,_,_,rfl⟩:=hv.sa
 unfold exXv at kL ⊢
 refine Spec.go [] Tryz.func23 rfl rfl (by kernel_rfl) fun C _=>?_
 try simp(disch:=omega) only[go_sem,ξ,ζ]
 refine caN (by exact kL) ?_;rintro r h2 s2 r2;obtain⟨u,rfl,c2⟩:=r2;obtain⟨_,_,_,_,_,_,_,_,_,_,_,_,_,_,_,_,rfl,c3⟩:=c2.sa
 try simp(disch:=omega) only[go_sem,ξ,ζ]
 exact⟨_,rfl,c3⟩
theorem Kid_x {h0 h:PH} [Le h0 h] {v:Value} {b1 b2:Nat} (hv:Boxv h0 v l01) (hb1:h0 b1=some #[v]) (hb2:h0 b2=some #[.int .i64 2]):Spec mach 57 #[exXv,.pointer (some ⟨b1,0,none⟩),.pointer (some ⟨b2,0,none⟩)] h (fun r h'=>Ir h' r (.ok (.i (some 0) (some 1)))) NP:=by
 have kL:=fun {h} [Le h0 h]=>Eval_x (h:=h) hv
 have hb1:=(inferInstance:Le h0 h).sub _ _ hb1
 have hb2:=(inferInstance:Le h0 h).sub _ _ hb2
 obtain⟨_,_,_,rfl⟩:=hv.sa
 unfold exXv at kL ⊢
 refine Spec.go [] Tryz.func57 rfl rfl (by kernel_rfl) fun C _=>?_
 try simp(disch:=omega) only[go_sem,ξ,ζ]
 refine aE (aK hb1) ?_
 try simp(disch:=omega) only[go_sem,ξ,ζ]
 refine aE (aK hb2) ?_
 try simp(disch:=omega) only[go_sem,ξ,ζ]
 refine caN (by exact kL) ?_;rintro r h2 s2 r2;obtain⟨u,rfl,c2⟩:=r2;obtain⟨_,_,_,_,_,_,_,_,_,_,_,_,_,_,_,_,rfl,c3⟩:=c2.sa
 try simp(disch:=omega) only[go_sem,ξ,ζ]
 exact⟨_,rfl,c3⟩
def q01 (h:PH) (cs:List Value) (_:Unit):Prop:=Cv h (.agg cs.toArray) (.i (some 0) (some 1))
theorem Comb_a {h0 h:PH} [Le h0 h] {v:Value} {b b1 b2:Nat} (hb:kC b h0) (hv:Boxv h0 v l01) (hb1:h0 b1=some #[v]) (hb2:h0 b2=some #[.int .i64 2]):Spec mach 56 #[exAv b,.int .i64 2,.func (.func 57) #[] #[.pointer (some ⟨b1,0,none⟩),.pointer (some ⟨b2,0,none⟩)]] h (fun r h'=>Ir h' r (.ok (.i (some 0) (some 2)))) NP:=by
 have kK:=fun {h} [Le h0 h]=>Kid_x (h:=h) hv hb1 hb2
 unfold exAv exXv at*
 refine Spec.go [(10,.x),(22,.o [0,1,2,3,4,5,6,7,8,9,10,11])] Tryz.func56 rfl rfl (by kernel_rfl) fun C _=>?_
 try simp(disch:=omega) only[go_sem,ξ,ζ]
 refine lpSl [(10,.x),(22,.o [0,1,2,3,4,5,6,7,8,9,10,11])] (fun x:Option (Nat×Nat×List Value)=>match x with |none=>⟨[(1,.v (.int .i64 2)),(2,.v (.func (.func 57) #[] #[.pointer (some ⟨b1,0,none⟩),.pointer (some ⟨b2,0,none⟩)])),(3,.p 0 0),(6,.p 1 0),(7,.v (.int .i64 0)),(22,.v (.slice (some ⟨b,0,none⟩) 2 2)),(23,.v (.int .i64 (2:Nat))),(8,.v (.slice none 0 0)),(24,.v (.int .i64 0))],[[.int .i64 5,.int .i64 0,.bool false,.slice none 0 0,.slice none 0 0,.string ⟨#[]⟩,.slice (some ⟨b,0,none⟩) 2 2],[.bool false,.slice none 0 0,.slice none 0 0,.bool false,.slice none 0 0,.slice none 0 0,.bool false,.bool false]]⟩ |some x=>⟨[(1,.v (.int .i64 2)),(2,.v (.func (.func 57) #[] #[.pointer (some ⟨b1,0,none⟩),.pointer (some ⟨b2,0,none⟩)])),(3,.p 0 0),(6,.p 1 0),(7,.v (.int .i64 0)),(22,.v (.slice (some ⟨b,0,none⟩) 2 2)),(23,.v (.int .i64 (2:Nat))),(8,.s 2 0 x.1 x.2.1),(24,.v (.int .i64 x.1))],[[.int .i64 5,.int .i64 0,.bool false,.slice none 0 0,.slice none 0 0,.string ⟨#[]⟩,.slice (some ⟨b,0,none⟩) 2 2],[.bool false,.slice none 0 0,.slice none 0 0,.bool false,.slice none 0 0,.slice none 0 0,.bool false,.bool false],x.2.2]⟩) (fun x h'=>Le h0 h'∧match x with |none=>True |some x=>1≤x.1∧x.1≤2∧x.1≤x.2.1∧x.2.1*8=x.2.2.length∧RowOf 8 (q01 h') x.2.2 (List.replicate x.1 ())) (fun x=>match x with |none=>2 |some x=>2 - x.1) none [0,1] ?_ ⟨inferInstance,trivial⟩ (by kernel_rfl) ?_
 ·try simp(disch:=omega) only[go_sem,ξ,ζ]
  all_goals rfl
 rintro(_ |⟨i,cap,row⟩) h2 ⟨le2,hr⟩
 ·have hl:(0:Int) < ((2:Nat):Int):=by decide
  dsimp only
  try simp(disch:=omega) only[go_sem,ξ,ζ,hl,decide_true]
  refine Exists.intro [_,_,_,_,_,_,_] (And.intro rfl (And.intro (fun j v hj=>le2.sub.at (kC_at hb 0 (by decide) j v hj)) ?_))
  try simp(disch:=omega) only[go_sem,ξ,ζ]
  refine caN (by exact kK) ?_;rintro r h3 s3 r3;obtain⟨u,rfl,c3⟩:=r3;obtain⟨x1,x2,x3,x4,x5,x6,x7,x8,x9,x10,x11,x12,x13,x14,x15,x16,rfl,c3⟩:=c3.sa
  try simp(disch:=omega) only[go_sem,ξ,ζ]
  refine AWP_app (sz:=8) [.o 0,.o 1,.o 2] 3 [.o 4] rfl (by kernel_rfl) (by kernel_rfl) (by rfl) (by decide) rfl rfl ?_
  try simp(disch:=omega) only[go_sem,ξ,ζ,walk,appN,Nat.reduceMul]
  intro cap junk hc hj
  have hR:RowOf 8 (q01 h3) ([.bool x1,.slice x2 x3 x4,.slice x5 x6 x7,.bool x8,.slice x9 x10 x11,.slice x12 x13 x14,.bool x15,.bool x16] ++junk) (List.replicate 1 ()):=(RowOf.nil (sz:=8) (Q:=q01 h3) (row:=[])).app (cs:=[.bool x1,.slice x2 x3 x4,.slice x5 x6 x7,.bool x8,.slice x9 x10 x11,.slice x12 x13 x14,.bool x15,.bool x16]) (s:=()) rfl c3 junk
  dsimp only[lpS]
  refine⟨some (1,cap,[.bool x1,.slice x2 x3 x4,.slice x5 x6 x7,.bool x8,.slice x9 x10 x11,.slice x12 x13 x14,.bool x15,.bool x16] ++junk),[0,1,5],?_,⟨inferInstance,η 1,Nat.le_succ 1,hc,by simp;omega,hR⟩,η 2⟩
  try simp(disch:=omega) only[go_sem,ξ,ζ]
  all_goals rfl
 ·obtain⟨g1,g2,g3,g4,g5⟩:=hr
  dsimp only at g1 g2 g3 g4 g5 ⊢
  by_cases hl:(i:Int) < ((2:Nat):Int)
  ·obtain rfl:i=1:=by omega
   try simp(disch:=omega) only[go_sem,ξ,ζ,hl,decide_true]
   refine Exists.intro [_,_,_,_,_,_,_] (And.intro rfl (And.intro (fun j v hj=>le2.sub.at (kC_at hb 1 (by decide) j v hj)) ?_))
   try simp(disch:=omega) only[go_sem,ξ,ζ]
   refine caN (by exact kK) ?_;rintro r h3 s3 r3;obtain⟨u,rfl,c3⟩:=r3;obtain⟨x1,x2,x3,x4,x5,x6,x7,x8,x9,x10,x11,x12,x13,x14,x15,x16,rfl,c3⟩:=c3.sa
   try simp(disch:=omega) only[go_sem,ξ,ζ]
   refine AWP_app (sz:=8) [.o 0,.o 1,.o 2] 3 [.o 4] rfl (by kernel_rfl) (by kernel_rfl) (by rfl) (by decide) rfl rfl ?_
   try simp(disch:=omega) only[go_sem,ξ,ζ,walk,appN,Nat.reduceMul]
   intro cap' junk hc hj
   have hR:RowOf 8 (q01 h3) (row.take 8 ++[.bool x1,.slice x2 x3 x4,.slice x5 x6 x7,.bool x8,.slice x9 x10 x11,.slice x12 x13 x14,.bool x15,.bool x16] ++junk) (List.replicate 2 ()):=(g5.mono fun cs s (k:Cv h2 _ _)=>(k.to:Cv h3 _ _)).app (cs:=[.bool x1,.slice x2 x3 x4,.slice x5 x6 x7,.bool x8,.slice x9 x10 x11,.slice x12 x13 x14,.bool x15,.bool x16]) (s:=()) rfl c3 junk
   dsimp only[lpS]
   refine⟨some (2,cap',row.take 8 ++[.bool x1,.slice x2 x3 x4,.slice x5 x6 x7,.bool x8,.slice x9 x10 x11,.slice x12 x13 x14,.bool x15,.bool x16] ++junk),[0,1,6],?_,⟨inferInstance,Nat.le_succ 1,η 2,hc,by simp;omega,hR⟩,η 1⟩
   try simp(disch:=omega) only[go_sem,ξ,ζ]
   all_goals rfl
  ·obtain rfl:i=2:=by omega
   try simp(disch:=omega) only[go_sem,ξ,ζ,hl,decide_false]
   have c1:Cv h2 (.agg (List.take 8 (List.drop (0*8) row)).toArray) (.i (some 0) (some 1)):=g5.2 0 () rfl
   have c2:Cv h2 (.agg (List.take 8 (List.drop (Int.toNat 1*8) row)).toArray) (.i (some 0) (some 1)):=g5.2 1 () rfl
   have kA:=fun {h} [Le h2 h]=>jf (h:=h) (p:=2) (c1.iv (by decide)) (c2.iv (by decide))
   rw[out02] at kA
   refine caN (by exact kA) ?_;rintro r h3 s3 r3;obtain⟨u,rfl,c3⟩:=r3;obtain⟨_,_,_,_,_,_,_,_,_,_,_,_,_,_,_,_,rfl,c3⟩:=c3.sa
   try simp(disch:=omega) only[go_sem,ξ,ζ]
   exact⟨_,rfl,c3⟩
theorem Eval_a {h0 h:PH} [Le h0 h] {v:Value} {b:Nat} (hb:kC b h0) (hv:Boxv h0 v l01):Spec mach 23 #[exAv b,v,.int .i64 2] h (fun r h'=>Ir h' r (.ok (.i (some 0) (some 2)))) NP:=by
 have hv0:=hv
 obtain⟨_,_,_,rfl⟩:=hv.sa
 have hb0:=hb
 unfold exAv
 refine Spec.go [(3,.t (.s [0,1] (.p 1 (.p 2 (.s [2,3,4,5,6,7] .d)))))] Tryz.func23 rfl rfl (by kernel_rfl) fun C _=>?_
 try simp(disch:=omega) only[go_sem,ξ,ζ]
 intro b1 h1 st1 hb1
 try simp(disch:=omega) only[go_sem,ξ,ζ]
 intro b2 h2 st2 hb2
 try simp(disch:=omega) only[go_sem,ξ,ζ]
 have hb1:=st2.sub _ _ (hb1 (by simp))
 have hb2:=hb2 (by simp)
 have kC2:=fun {h} [Le h2 h]=>Comb_a (h:=h) ((inferInstance:Le h0 h2).sub _ _ hb0) (hv0.to (h':=h2)) hb1 hb2
 unfold exAv at kC2
 refine caN (by exact kC2) ?_;rintro r h3 s3 r3;obtain⟨u,rfl,c3⟩:=r3;obtain⟨_,_,_,_,_,_,_,_,_,_,_,_,_,_,_,_,rfl,c3⟩:=c3.sa
 try simp(disch:=omega) only[go_sem,ξ,ζ]
 exact⟨_,rfl,c3⟩
theorem Range_a {h0 h:PH} [Le h0 h] {v:Value} {b:Nat} (hb:kC b h0) (hv:Boxv h0 v l01):Spec mach 11 #[exAv b,v,.int .i64 2] h (fun r h'=>Ir h' r (.ok (.i (some 0) (some 2)))) NP:=by
 have kR:=fun {h} [Le h0 h]=>Ready_spec (h:=h) hb hv
 have kE:=fun {h} [Le h0 h]=>Eval_a (h:=h) hb hv
 obtain⟨_,_,_,rfl⟩:=hv.sa
 unfold exAv at*
 refine Spec.go [] Tryz.func11 rfl rfl (by kernel_rfl) fun C _=>?_
 try simp(disch:=omega) only[go_sem,ξ,ζ]
 refine caN (by exact kR) ?_;rintro v1 h1 s1 rfl
 try simp(disch:=omega) only[go_sem,ξ,ζ]
 refine caN (by exact kE) ?_;rintro r h3 s3 r3;obtain⟨u,rfl,c3⟩:=r3;obtain⟨_,_,_,_,_,_,_,_,_,_,_,_,_,_,_,_,rfl,c3⟩:=c3.sa
 try simp(disch:=omega) only[go_sem,ξ,ζ]
 exact⟨_,rfl,c3⟩
theorem awake05_spec {h:PH}:Spec mach 10 #[] h (fun r _=>r=.bool true) NP:=by
 refine Spec.go [(3,.t (.p 1 (.s [0,1,2] (.p 2 (.s [3,4,5,6,7,8,9,10,11] .d)))))] Tryz.func10 rfl rfl (by kernel_rfl) fun C _=>?_
 try simp(disch:=omega) only[go_sem,ξ,ζ]
 refine caN (by exact aF (n:=1) (by decide) (by decide)) ?_;rintro _ h1 _ f1;obtain⟨_,_,_,_,_,_,_,rfl,f1⟩:=f1.sa
 try simp(disch:=omega) only[go_sem,ξ,ζ]
 refine caN (by exact cA f1 (by decide)) ?_;rintro _ h2 _ f2;obtain⟨v2_0,v2_1,v2_2,v2_3,v2_4,v2_5,v2_6,rfl,f2⟩:=f2.sa
 try simp(disch:=omega) only[go_sem,ξ,ζ,Nat.reduceMul]
 intro bs h3 st3 hbs
 try simp(disch:=omega) only[go_sem,ξ,ζ]
 have hbs:=hbs (by simp)
 intro bk h4 st4 hbk
 try simp(disch:=omega) only[go_sem,ξ,ζ]
 have hbk:kC bk h4:=hbk (by simp)
 have hat:∀j v,([.string ⟨#[120]⟩,.bool false,.slice none 0 0,.slice none 0 0,.bool v2_0,.slice v2_1 v2_2 v2_3,.slice v2_4 v2_5 v2_6,.bool false,.bool false]:List Value)[j]?=some v→h4.at (((⟨bs,0,none⟩:Addr).add 0).add j)=some v:=fun j v hj=>by
  refine st4.sub.at ?_
  rw[at_off hbs,Nat.zero_add]
  simpa using hj
 have hv:Boxv h4 (.slice (some ⟨bs,0,none⟩) 1 1) l01:=⟨_,_,rfl,by decide,fun i s hi=>by
  have hi1:i < 1:=(List.getElem?_eq_some_iff.1 hi).1
  obtain rfl:i=0:=by omega
  cases hi
  refine⟨_,_,_,_,_,_,_,_,_,_,_,_,_,_,_,_,_,rfl,hat,?_⟩
  have c1:Cv h4 (.agg #[.bool false,.slice none 0 0,.slice none 0 0,.bool v2_0,.slice v2_1 v2_2 v2_3,.slice v2_4 v2_5 v2_6,.bool false,.bool false]) (.i (some 0) (some 1)):=⟨_,_,_,_,_,_,rfl,Cn.zero h4,by simpa using f2.to (h':=h4)⟩
  exact c1.iv (by decide)⟩
 have kR:=fun {h} [Le h4 h]=>Range_a (h:=h) hbk hv
 have kV:=fun {h} [Le h4 h]=>BValid_spec (h:=h) hv
 rw[l01_ok] at kV
 unfold exAv at kR
 refine caN (by exact kR) ?_;rintro r h5 s5 r5;obtain⟨u,rfl,c5⟩:=r5;obtain⟨d1,w1,w2,w3,w4,w5,w6,d2,w7,w8,w9,w10,w11,w12,rfl,p1,p2⟩:=c5.fl
 try simp(disch:=omega) only[go_sem,ξ,ζ]
 have p1:Cn h5 _ 0:=p1
 have p2:Cn h5 _ 2:=p2
 obtain⟨sn,sd,e1,n1,n2⟩:=p1
 obtain⟨sn',sd',e2,n3,n4⟩:=p2
 simp only[Value.agg.injEq,Array.mk.injEq,List.cons.injEq,and_true] at e1 e2
 obtain⟨_,rfl,rfl⟩:=e1
 obtain⟨_,rfl,rfl⟩:=e2
 have:=E4 (by simpa using n1)
 subst this
 obtain⟨rfl,ad',rfl,t2⟩:=zC (n:=2) n3 (by decide) (by decide)
 have:=E4 (by simpa using n4)
 subst this
 try simp(disch:=omega) only[go_sem,ξ,ζ]
 refine aE t2 ?_
 try simp(disch:=omega) only[go_sem,ξ,ζ]
 refine caN (by exact kV) ?_;rintro v6 h6 s6 rfl
 try simp(disch:=omega) only[go_sem,ξ,ζ]
 all_goals rfl
end Go.Q
namespace Go.Q
open Go.Proofs
set_option maxRecDepth 100000
set_option maxHeartbeats 8000000
def ptR (x:Bool×Nat×Nat):RI:=⟨x.1,x.2.1,x.2.2,x.1,x.2.1,x.2.2,false,false⟩
def ptE (x:Bool×Nat×Nat):Out:=(ptR x).fin (.ok (ptR x).set)
theorem fin_le {x:RI} {o:Out} {z:NS} (h:x.fin o=.ok z):z.le 2048:=by
 unfold RI.fin at h
 cases e:x.big with
 |true=>rw[e] at h;cases h
 | false=>
  rw[e,cond_false] at h
  cases o with
  |error e=>cases h
  | ok w=>
   unfold Out.fin at h
   dsimp only at h
   cases e2:decide (w.le 2048) with
   |false=>rw[e2] at h;cases h
   |true=>rw[e2] at h;cases h;exact of_decide_eq_true e2
def kidsO (f:Nat→Out):Nat→Except Int (List NS)
 |0=>.ok []
 | i +1=>match kidsO f i with
  |.error e=>.error e
  | .ok l=>match f i with
   |.error e=>.error e
   |.ok z=>.ok (l ++[z])
def rndE (p:Int) (x:RI):Out:=x.fin (Out.prec p (.ok (x.set.hull p.toNat)))
def piE (p:Nat):Out:=Out.fin (.ok (.i (some (piLo p)) (some (piHi p))))
def nodE (p op arg:Int) (l:List NS):Out:=
 let x:=(l.getD 0 .e).ri
 let y:=(l.getD 1 .e).ri
 if op=4 then x.fin (.ok x.set.minus) else if op=12 then x.fin (.ok x.set.size)
 else if op=13 then opO 4 x y arg p else if op=14 then opO 5 x y arg p else if op=5 then opO 0 x y arg p else if op=6 then opO 1 x y arg p
 else if op=7 then opO 2 x y arg p else if op=8 then opO 3 x y arg p else opO 6 x y arg p
def leafE (B:ByteArray→RI) (p op:Int) (num:Bool×Nat×Nat) (name:ByteArray):Out:=
 if op=1 then match ptE num with
  |.error e=>.error e
  |.ok z=>rndE p z.ri
 else if op=2 then rndE p (B name) else piE p.toNat
def fineO (o o':Out):Prop:=∀L,o'=.ok L→o=.error 1∨∃S,o=.ok S∧S.within L=true∧S.le 2048
theorem ri_i (a b:Option Rat):(NS.i a b).ri.set=NS.mk' a b:=by
 unfold RI.set RI.lo RI.hi NS.ri
 dsimp only
 rw[jA,jA]
 cases a<;>cases b<;>simp[NS.loN,NS.hiN,NS.clo,NS.chi]
theorem ri_iso {x y:NS} (h:x.within y=true):x.ri.set.within y.ri.set=true:=by
 cases x with
 |e=>rw[NS.ri_set (x:=.e) trivial];exact tX
 | i a b =>
  cases y with
  |e=>cases h
  | i c d =>
   rw[ri_i]
   unfold NS.mk'
   cases g:ordO a b with
   |false=>exact tX
   | true=>
    rw[NS.ri_set (x:=.i c d)]
    ·exact h
    ·rw[cK,dp,cJ] at h
     show ordO c d=true
     cases c with
     |none=>rfl
     | some c=>
      cases d with
      |none=>cases a<;>rfl
      | some d=>
       obtain⟨w,rfl,kw⟩:=h.1 c rfl
       obtain⟨w',rfl,kw'⟩:=h.2 d rfl
       unfold ordO at*
       simp only[Bool.not_eq_true',decide_eq_false_iff_not] at*
       grind
theorem Out.fin_fine {o o':Out} (h:∀L,o'=.ok L→∃S,o=.ok S∧S.within L=true):fineO o.fin o'.fin:=by
 intro L hL
 cases o' with
 |error e=>cases hL
 | ok z=>
  rcases AW z with e |e<;>rw[e] at hL<;>cases hL
  obtain⟨S,rfl,hS⟩:=h _ rfl
  by_cases g:S.le 2048
  ·exact .inr ⟨S,by unfold Out.fin;simp only[g,decide_true,cond_true],hS,g⟩
  ·exact .inl (by unfold Out.fin;simp only[g,decide_false,cond_false])
theorem fin_fine {x x':RI} {o o':Out} (hx:x.big=false) (h:∀L,o'=.ok L→∃S,o=.ok S∧S.within L=true):fineO (x.fin o) (x'.fin o'):=by
 intro L hL
 unfold RI.fin at*
 rw[hx]
 cases g:x'.big with
 |true=>rw[g] at hL;cases hL
 |false=>rw[g] at hL;exact Out.fin_fine h L hL
theorem gdown_fine {p q:Nat} (h:p≤q) (x:Rat):gdown x p≤gdown x q:=by
 obtain⟨k,rfl⟩:∃k,q=p+k:=⟨q - p,by omega⟩
 have p1:(0:Rat) < 2^p:=Rat.pow_pos (by decide)
 have p2:(0:Rat) < 2^k:=Rat.pow_pos (by decide)
 have e:(2:Rat)^(p+k)=2^p*2^k:=by grind
 have f1:=Rat.floor_le (x*2^p)
 have f2:(x*2^p).floor*2^k≤(x*2^(p+k)).floor:=by
  refine Rat.le_floor_iff.2 ?_
  rw[Rat.intCast_mul,Rat.intCast_pow,e]
  have:=mlr f1 (llt p2)
  show((x*2^p).floor:Rat)*2^k≤_
  grind
 have f3:(((x*2^p).floor*2^k:Int):Rat)≤((x*2^(p+k)).floor:Rat):=qBa.2 f2
 have p3:(0:Rat) < 2^(p+k):=Rat.pow_pos (by decide)
 have j1:(0:Rat) < (2^(p+k))⁻¹:=Rat.inv_pos.2 p3
 have j2:(2:Rat)^(p+k)*(2^(p+k))⁻¹=1:=qBf _ (by grind)
 have i2:(2:Rat)^p*(2^p)⁻¹=1:=qBf _ (by grind)
 have f4:=mlr f3 (llt j1)
 rw[Rat.intCast_mul,Rat.intCast_pow] at f4
 unfold gdown
 rw[qAx,qAx]
 have:(2^p:Rat)⁻¹=2^k*(2^(p+k))⁻¹:=by
  rw[e] at j2 ⊢
  generalize((2:Rat)^p*2^k)⁻¹=j at*
  generalize((2:Rat)^p)⁻¹=i at*
  have:i*(2^p*2^k*j)=i:=by rw[j2,Rat.mul_one]
  grind
 rw[this]
 have c2:(((2:Int):Rat))=2:=rfl
 rw[c2] at f4
 grind
theorem hull_fine {p q:Nat} (h:p≤q) (x:NS):(x.hull q).within (x.hull p)=true:=by
 cases x with
 |e=>rfl
 | i a b=>
  show(NS.i (a.map (gdown · q)) (b.map (gup · q))).within (.i (a.map (gdown · p)) (b.map (gup · p)))=true
  rw[cK,dp,cJ]
  refine⟨fun z e=>?_,fun z e=>?_⟩
  ·cases a with
   |none=>cases e
   |some a=>cases e;exact⟨_,rfl,gdown_fine h a⟩
  ·cases b with
   |none=>cases e
   | some b=>
    cases e
    refine⟨_,rfl,?_⟩
    have:=gdown_fine h (-b)
    show gup b q≤gup b p
    rw[uG,uG];grind
theorem within_trans {x y z:NS} (h:x.within y=true) (k:y.within z=true):x.within z=true:=by
 cases x with
 |e=>exact tX
 | i a b =>
  cases y with
  |e=>cases h
  | i c d=>
   cases z with
   |e=>cases k
   | i e f=>
    rw[cK,dp,cJ] at*
    refine⟨fun u hu=>?_,fun u hu=>?_⟩
    ·obtain⟨v,hv,k1⟩:=k.1 u hu
     obtain⟨w,hw,k2⟩:=h.1 v hv
     exact⟨w,hw,by grind⟩
    ·obtain⟨v,hv,k1⟩:=k.2 u hu
     obtain⟨w,hw,k2⟩:=h.2 v hv
     exact⟨w,hw,by grind⟩
theorem rnd_fine {x y x' y':NS} {p q:Int} {o o':Out} (gp:bad p=false) (gq:bad q=false) (pq:p≤q) (h1:x.within x'=true) (h2:y.within y'=true) (h:x.void=false→y.void=false→isoO o o'):isoO (rnd q x y o) (rnd p x' y' o'):=by
 intro L hL
 unfold rnd Out.prec at*
 rw[gp] at hL
 rw[gq]
 cases hx:x.void with
 |true=>exact⟨.e,rfl,tX⟩
 | false=>
  cases hy:y.void with
  |true=>exact⟨.e,rfl,tX⟩
  | false=>
   rw[yN h1 hx,yN h2 hy] at hL
   cases o' with
   |error e=>cases hL
   | ok z=>
    obtain⟨S,rfl,hS⟩:=h hx hy z rfl
    cases hL
    exact⟨_,rfl,within_trans (hull_fine (by omega) S) (NS.hull_mono hS)⟩
theorem powR_fine {x x':NS} {n p q:Int} (gq:bad q=false) (pq:p≤q) (ox:x.ok) (ox':x'.ok) (h:x.within x'=true):isoO (powR n q x) (powR n p x'):=by
 intro L hL
 obtain⟨S,hS,kS⟩:=powR_iso (p:=p) ox ox' h L hL
 unfold powR Out.prec at*
 cases gn:badn n with
 |true=>rw[gn] at hS;cases hS
 | false=>
  rw[gn] at hS
  rw[gq]
  cases gp:bad p with
  |true=>rw[gp] at hS;cases hS
  | false=>
   rw[gp] at hS
   have hS:hullO p.toNat (powO n x)=.ok S:=hS
   show ∃S,hullO q.toNat (powO n x)=.ok S∧_
   cases ho:powO n x with
   |error e=>rw[ho] at hS;cases hS
   | ok z=>
    rw[ho] at hS
    cases hS
    exact⟨_,rfl,within_trans (hull_fine (by omega) z) kS⟩
theorem op_fine {op:Nat} {x x' y y':RI} {n p q:Int} (gp:bad p=false) (gq:bad q=false) (pq:p≤q) (gx:x.big=false) (gy:y.big=false) (hx:x.set.within x'.set=true) (hy:y.set.within y'.set=true) (ho:op < 7):fineO (opO op x y n q) (opO op x' y' n p):=by
 have ox:=RI.set_ok x
 have ox':=RI.set_ok x'
 have oy:=RI.set_ok y
 have oy':=RI.set_ok y'
 have two:∀{o o':Out},isoO o o'→fineO (x.fin2 y o) (x'.fin2 y' o'):=by
  intro o o' hi L hl
  unfold RI.fin2 at*
  rw[gx,gy]
  cases g:x'.big || y'.big with
  |true=>rw[g] at hl;cases hl
  |false=>rw[g] at hl;exact Out.fin_fine hi L hl
 match op,ho with
 |0,_=>exact two (rnd_fine gp gq pq hx hy fun _ _=>x8 (wG hx hy))
 |1,_=>exact two (rnd_fine gp gq pq hx hy fun _ _=>x8 (wG hx (gK hy)))
 |2,_=>exact two (rnd_fine gp gq pq hx hy fun _ _=>x8 (tH ox oy hx hy))
 |3,_=>exact two (rnd_fine gp gq pq hx hy fun _ _=>div_iso ox oy oy' hx hy)
 |4,_=>exact two (x8 (pm hx hy))
 |5,_=>exact two (x8 (gK (pm (gK hx) (gK hy))))
 |6,_=>exact fin_fine gx (powR_fine gq pq ox ox' hx)
theorem nod_fine {p q op arg:Int} {l l':List NS} (gp:bad p=false) (gq:bad q=false) (pq:p≤q) (hl:∀i,(l.getD i .e).within (l'.getD i .e)=true∧(l.getD i .e).le 2048):fineO (nodE q op arg l) (nodE p op arg l'):=by
 have b0:=NS.ri_big (hl 0).2
 have b1:=NS.ri_big (hl 1).2
 have w0:=ri_iso (hl 0).1
 have w1:=ri_iso (hl 1).1
 have k:=fun {op:Nat} (ho:op < 7)=>op_fine (n:=arg) gp gq pq b0 b1 w0 w1 ho
 unfold nodE
 repeat' split
 ·exact fin_fine b0 (x8 (gK w0))
 ·exact fin_fine b0 (x8 (size_iso (RI.set_ok _) (RI.set_ok _) w0))
 all_goals exact k (by decide)
theorem rndE_fine {p q:Int} {x x':RI} (gq:bad q=false) (pq:p≤q) (hx:x.big=false) (h:x.set.within x'.set=true):fineO (rndE q x) (rndE p x'):=by
 unfold rndE
 refine fin_fine hx fun L hL=>?_
 unfold Out.prec at*
 rw[gq]
 cases gp:bad p with
 |true=>rw[gp] at hL;cases hL
 |false=>rw[gp] at hL;cases hL;exact⟨_,rfl,within_trans (hull_fine (by omega) _) (NS.hull_mono h)⟩
theorem pi_next:∀p < 128,2*(piL (p+32) / 2^32)≤piL (p+1+32) / 2^32∧cdiv (piH (p+1+32)) (2^32)≤2*cdiv (piH (p+32)) (2^32):=by decide+kernel
theorem sgn_two (n w:Nat):sgn false (2*n) (2^(w+1))=sgn false n (2^w):=BK (am _) (am _) (by rw[qAn];grind)
theorem pi_nest {p:Nat}:∀k,p+k≤128→piLo p≤piLo (p+k)∧piHi (p+k)≤piHi p
 |0,_=>⟨by grind,by grind⟩
 | k +1,h=>by
  obtain⟨k1,k2⟩:=pi_nest (p:=p) k (by omega)
  obtain⟨n1,n2⟩:=pi_next (p+k) (by omega)
  have e1:piLo (p+k)≤piLo (p+k+1):=by
   unfold piLo
   rw[←sgn_two]
   exact DU (am _) (by omega)
  have e2:piHi (p+k+1)≤piHi (p+k):=by
   unfold piHi
   rw[←sgn_two (cdiv (piH (p+k+32)) (2^32)) (p+k)]
   exact DU (am _) (by omega)
  exact⟨qAq k1 e1,qAq e2 k2⟩
theorem within_refl (x:NS):x.within x=true:=by
 cases x with
 |e=>rfl
 | i a b=>
  rw[cK,dp,cJ]
  exact⟨fun u h=>⟨u,h,by grind⟩,fun u h=>⟨u,h,by grind⟩⟩
theorem leaf_fine {B B':ByteArray→RI} {p q op:Int} {num:Bool×Nat×Nat} {name:ByteArray} (gp:bad p=false) (gq:bad q=false) (pq:p≤q) (hB:∀s,(B' s).big=false∧(B' s).set.within (B s).set=true):fineO (leafE B' q op num name) (leafE B p op num name):=by
 unfold leafE
 repeat' split
 ·intro L hL;cases hL
 ·rename_i z hz
  exact rndE_fine gq pq (NS.ri_big (fin_le hz)) (within_refl _)
 ·exact rndE_fine gq pq (hB name).1 (hB name).2
 ·have h1:=jt gp
  have h2:=jt gq
  obtain⟨k1,k2⟩:=pi_nest (p:=p.toNat) (q.toNat - p.toNat) (by omega)
  rw[show p.toNat+(q.toNat - p.toNat)=q.toNat by omega] at k1 k2
  refine Out.fin_fine (x8 ?_)
  rw[cK,dp,cJ]
  exact⟨fun u h=>by cases h;exact⟨_,rfl,k1⟩,fun u h=>by cases h;exact⟨_,rfl,k2⟩⟩
theorem kids_fine {f f':Nat→Out} (h:∀i,fineO (f i) (f' i)):∀n L,kidsO f' n=.ok L→kidsO f n=.error 1∨∃S,kidsO f n=.ok S∧S.length=L.length∧∀i,(S.getD i .e).within (L.getD i .e)=true∧(S.getD i .e).le 2048
 | 0,L,hL=>by
  cases hL
  exact .inr ⟨[],rfl,rfl,fun i=>⟨tX,rfl⟩⟩
 | n + 1, L, hL=>by
  unfold kidsO at*
  cases h1:kidsO f' n with
  |error e=>rw[h1] at hL;cases hL
  | ok l=>
   rw[h1] at hL
   cases h2:f' n with
   |error e=>rw[h2] at hL;cases hL
   | ok z=>
    rw[h2] at hL
    cases hL
    rcases kids_fine h n l h1 with e |⟨S,e,e2,hS⟩
    ·rw[e];exact .inl rfl
    ·rw[e]
     rcases h n z h2 with g |⟨w,g,g2,g3⟩
     ·rw[g];exact .inl rfl
     ·rw[g]
      refine .inr ⟨_,rfl,by simp[e2],fun i=>?_⟩
      rcases Nat.lt_trichotomy i S.length with k |k |k
      ·have:=hS i
       simp only[qAy] at*
       rw[List.getElem?_append_left k,List.getElem?_append_left (by omega)]
       exact this
      ·simp only[qAy]
       rw[List.getElem?_append_right (by omega),List.getElem?_append_right (by omega),←e2,k]
       simpa using⟨g2,g3⟩
      ·simp only[qAy]
       rw[List.getElem?_eq_none (by simp;omega),List.getElem?_eq_none (by simp;omega)]
       exact⟨rfl,rfl⟩
inductive Exq where
 |no
 |mk (op arg:Int) (num:Bool×Nat×Nat) (name:ByteArray) (n:Nat) (kid:Nat→Exq)
def nmOk:Exq→Prop
 |.no=>True
 |.mk op _ _ name n kid=>(op=2→name.size≤8)∧∀i,i < n→nmOk (kid i)
def nodesL:Exq→List (Int×ByteArray)
 |.no=>[]
 |.mk op _ _ name n kid=>(op,name) :: (List.range n).flatMap fun i=>nodesL (kid i)
def evX (B:ByteArray→RI) (p:Int):Exq→Out
 |.no=>.ok .e
 | .mk op arg num name n kid=>if n=0 then leafE B p op num name else match kidsO (fun i=>evX B p (kid i)) n with
  |.error e=>.error e
  |.ok l=>nodE p op arg l
theorem evx_fine {B B':ByteArray→RI} {p q:Int} (gp:bad p=false) (gq:bad q=false) (pq:p≤q) (hB:∀s,(B' s).big=false∧(B' s).set.within (B s).set=true) (e:Exq):fineO (evX B' q e) (evX B p e):=by
 induction e with
 |no=>exact fun L h=>.inr ⟨.e,rfl,by cases h;exact within_refl _,rfl⟩
 | mk op arg num name n kid ih=>
  intro L hL
  unfold evX at hL ⊢
  by_cases h:n=0
  ·rw[if_pos h] at hL ⊢
   exact leaf_fine gp gq pq hB L hL
  ·rw[if_neg h] at hL ⊢
   cases h1:kidsO (fun i=>evX B p (kid i)) n with
   |error e=>rw[h1] at hL;cases hL
   | ok l=>
    rw[h1] at hL
    rcases kids_fine ih n l h1 with e |⟨S,e,_,hS⟩
    ·rw[e];exact .inl rfl
    ·rw[e]
     exact nod_fine gp gq pq hS L hL
def Ndv (h:PH) (v:Value) (op arg:Int) (num:Bool×Nat×Nat) (name:ByteArray) (a:Option Addr) (n c:Nat):Prop:=∃a1 m1 c1 a2 m2 c2,v=.agg #[.int .i64 op,.int .i64 arg,.bool num.1,.slice a1 m1 c1,.slice a2 m2 c2,.string name,.slice a n c]∧Rw h (.agg #[.bool num.1,.slice a1 m1 c1,.slice a2 m2 c2]) num.1 num.2.1 num.2.2
def Xv (h:PH):Exq→Value→Prop
 |.no,_=>False
 |.mk op arg num name n kid,v=>∃a c,Ndv h v op arg num name a n c∧n≤2^30∧∀i,i < n→∃(ad:Addr) (cs:List Value),a=some ad∧cs.length=7∧(∀(j:Nat) u,cs[j]?=some u→h.at ((ad.add (i*7)).add j)=some u)∧Xv h (kid i) (.agg cs.toArray)
theorem Ndv.to {h h':PH} [t:Le h h'] {v:Value} {op arg:Int} {num:Bool×Nat×Nat} {name:ByteArray} {a:Option Addr} {n c:Nat} (q:Ndv h v op arg num name a n c):Ndv h' v op arg num name a n c:=by
 obtain⟨a1,m1,c1,a2,m2,c2,e,r⟩:=q
 exact⟨_,_,_,_,_,_,e,r.to⟩
theorem Xv.to {h h':PH} [t:Le h h'] {e:Exq}:∀{v:Value},Xv h e v→Xv h' e v:=by
 induction e with
 |no=>exact fun q=>q.elim
 | mk op arg num name n kid ih=>
  rintro v ⟨a,c,q,hn,k⟩
  refine⟨a,c,q.to,hn,fun i hi=>?_⟩
  obtain⟨ad,cs,e,hl,hat,hk⟩:=k i hi
  exact⟨ad,cs,e,hl,fun j u hj=>t.sub.at (hat j u hj),ih i hk⟩
theorem Xv.cs {h:PH} {e:Exq} {cs:List Value} (q:Xv h e (.agg cs.toArray)):∃(op arg:Int) (b:Bool) (a1:Option Addr) (m1 c1:Nat) (a2:Option Addr) (m2 c2:Nat) (name:ByteArray) (a:Option Addr) (n c:Nat),cs=[.int .i64 op,.int .i64 arg,.bool b,.slice a1 m1 c1,.slice a2 m2 c2,.string name,.slice a n c]:=by
 obtain _ |⟨op,arg,num,name,n,kid⟩:=e
 ·exact q.elim
 obtain⟨a,c,⟨_,_,_,_,_,_,e,_⟩,_⟩:=q
 exact⟨_,_,_,_,_,_,_,_,_,_,_,_,_,by simpa using e⟩
def kdE (op:Int):Option Nat:=
 if op=1∨op=2∨op=3 then some 0 else if op=4∨op=9∨op=10∨op=11∨op=12 then some 1
 else if op=5∨op=6∨op=7∨op=8∨op=13∨op=14 then some 2 else if op=15 then some 3 else none
def valX:Exq→Prop
 |.no=>False
 |.mk op _ _ _ n kid=>kdE op=some n∧∀i,i < n→valX (kid i)
theorem EKids_spec {h:PH} {op:Int}:Spec mach 219 #[.int .i64 op] h (fun v _=>v=.tuple #[.int .i64 (((kdE op).getD 0:Nat):Int),.bool (kdE op).isSome]) NP:=by
 by_cases e1:op=1
 case' neg=>by_cases e2:op=2
 case' neg=>by_cases e3:op=3
 case' neg=>by_cases e4:op=4
 case' neg=>by_cases e9:op=9
 case' neg=>by_cases e10:op=10
 case' neg=>by_cases e11:op=11
 case' neg=>by_cases e12:op=12
 case' neg=>by_cases e5:op=5
 case' neg=>by_cases e6:op=6
 case' neg=>by_cases e7:op=7
 case' neg=>by_cases e8:op=8
 case' neg=>by_cases e13:op=13
 case' neg=>by_cases e14:op=14
 case' neg=>by_cases e15:op=15
 case' neg=>
  have hk:kdE op=none:=by unfold kdE;simp only[e1,e2,e3,e4,e5,e6,e7,e8,e9,e10,e11,e12,e13,e14,e15,or_self,if_false]
  rw[hk]
  have f1:(op == 1)=false:=by simpa using e1
  have f2:(op == 2)=false:=by simpa using e2
  have f3:(op == 3)=false:=by simpa using e3
  have f4:(op == 4)=false:=by simpa using e4
  have f5:(op == 5)=false:=by simpa using e5
  have f6:(op == 6)=false:=by simpa using e6
  have f7:(op == 7)=false:=by simpa using e7
  have f8:(op == 8)=false:=by simpa using e8
  have f9:(op == 9)=false:=by simpa using e9
  have f10:(op == 10)=false:=by simpa using e10
  have f11:(op == 11)=false:=by simpa using e11
  have f12:(op == 12)=false:=by simpa using e12
  have f13:(op == 13)=false:=by simpa using e13
  have f14:(op == 14)=false:=by simpa using e14
  have f15:(op == 15)=false:=by simpa using e15
  refine Spec.go [] Tryz.func219 rfl rfl (by kernel_rfl) fun C _=>?_
  try simp(maxSteps:=999999) (disch:=omega) only[go_sem,ξ,ζ,f1,f2,f3,f4,f5,f6,f7,f8,f9,f10,f11,f12,f13,f14,f15]
  all_goals rfl
 all_goals
  subst op
  refine Spec.go [] Tryz.func219 rfl rfl (by kernel_rfl) fun C _=>?_
  try simp(maxSteps:=999999) (disch:=omega) only[go_sem,ξ,ζ]
  all_goals rfl
end Go.Q
namespace Go.Q
open Go.Proofs Go.RowKit
set_option maxRecDepth 100000
set_option maxHeartbeats 8000000
theorem at_cell {h:PH} {b o:Nat} {u:Value} (q:h.at ⟨b,o,none⟩=some u):∃C,h b=some C∧C[o]?=some u:=by
 unfold PH.at at q
 dsimp only at q
 cases e:h b with
 |none=>rw[e] at q;cases q
 |some C=>rw[e] at q;exact⟨C,rfl,q⟩
theorem adr_none {b o n:Nat}:(⟨b,o,none⟩:Addr).add n=⟨b,o+n,none⟩:=by
 unfold Addr.add
 split
 ·rename_i e;rw[e];rfl
 ·rfl
theorem at_none {h:PH} {b o:Nat} {sp:Option Nat} {u:Value} (q:h.at ⟨b,o,sp⟩=some u):sp=none:=by
 unfold PH.at at q
 cases sp with
 |none=>rfl
 |some s=>cases q
theorem Xv.xt {h:PH} {w:World} (hw:Has w h) {e:Exq}:∀{v:Value},Xv h e v→nmOk e→∃t:XT,XTin w.heap.size w t∧t.nd.v=v∧nodesX t=nodesL e:=by
 induction e with
 |no=>exact fun q=>q.elim
 | mk op arg num name n kid ih=>
  rintro v ⟨a,c,⟨a1,m1,c1,a2,m2,c2,rfl,_⟩,hn,hk⟩ ⟨hnm,hnk⟩
  have hc:∀i,∃t:XT,i < n→(∃kb ko,a=some ⟨kb,ko,none⟩∧kb < w.heap.size∧(∃cs T f,w.heap[kb]?=some (.cells cs T f)∧∀(j:Nat) u,t.nd.cs[j]?=some u→cs[ko+i*7+j]?=some u)∧XTin w.heap.size w t)∧nodesX t=nodesL (kid i):=by
   intro i
   by_cases hi:i < n
   ·obtain⟨ad,cs,ea,hl,hat,hx⟩:=hk i hi
    obtain⟨ad0,cs0,ea0,hl0,hat0,hx0⟩:=hk 0 (by omega)
    obtain⟨t,t1,t2,t3⟩:=ih i hx (hnk i hi)
    have hcs:cs=t.nd.cs:=by
     unfold XN.v at t2
     simp only[Value.agg.injEq] at t2
     have:=congrArg Array.toList t2
     exact this.symm
    obtain rfl:ad=ad0:=by rw[ea] at ea0;exact Option.some.inj ea0
    obtain⟨kb,ko,sp⟩:=ad
    obtain⟨x0,hx0⟩:∃x,cs0[0]?=some x:=⟨_,List.getElem?_eq_getElem (by omega)⟩
    obtain rfl:sp=none:=at_none (b:=kb) (o:=ko) (hat0 0 x0 hx0)
    have hat':∀(j:Nat) u,cs[j]?=some u→h.at ⟨kb,ko+i*7+j,none⟩=some u:=fun j u hj=>by
     have:=hat j u hj
     rw[adr_none,adr_none] at this
     exact this
    obtain⟨y0,hy0⟩:∃x,cs[0]?=some x:=⟨_,List.getElem?_eq_getElem (by omega)⟩
    obtain⟨C,hC,_⟩:=at_cell (hat' 0 y0 hy0)
    obtain⟨T,f,hT⟩:=hw _ _ hC
    refine⟨t,fun _=>⟨⟨kb,ko,ea,(Array.getElem?_eq_some_iff.1 hT).1,⟨C,T,f,hT,fun j u hj=>?_⟩,t1⟩,t3⟩⟩
    obtain⟨C',hC',hu⟩:=at_cell (hat' j u (hcs▸hj))
    rw[hC] at hC'
    cases hC'
    exact hu
   ·exact⟨.no,fun h=>absurd h hi⟩
  obtain⟨K,hK⟩:=Classical.axiomOfChoice hc
  refine⟨.mk ⟨op,arg,num.1,a1,m1,c1,a2,m2,c2,name,a,n,c,hnm⟩ K,⟨hn,fun i hi=>(hK i hi).1⟩,rfl,?_⟩
  have e:∀i∈List.range n,nodesX (K i)=nodesL (kid i):=fun i hi=>(hK i (List.mem_range.1 hi)).2
  unfold nodesX nodesL
  rw[List.flatMap_def,List.flatMap_def]
  dsimp only[XN.key]
  rw[List.map_congr_left e]
theorem VarsX_spec {h0 h:PH} [l0:Le h0 h] {e:Exq} {v:Value} (hv:Xv h0 e v) (hnm:nmOk e) (hN:(nodesL e).length≤300)
  (kV:∀{h:PH} [Le h0 h],Spec mach 52 #[v] h (fun r _=>r=.bool true) NP):
  Spec mach 53 #[v] h (fun r h'=>∃(a:Option Addr) (c:Nat) (ns:List (List UInt8)),r=.tuple #[.slice a ns.length c,.int .i64 0]∧ns.length≤9223372036854775807∧(∀s,s∈ns↔∃nm:ByteArray,((2:Int),nm)∈nodesL e∧nm.data.toList=s)∧∀i s,ns[i]?=some s→∃ad,a=some ad∧h'.at (ad.add i)=some (.string ⟨s.toArray⟩)) NP:=by
 refine⟨by kernel_rfl,fun w hw hg=>?_⟩
 obtain⟨t,t1,t2,t3⟩:=(hv.to (h':=h)).xt hw hnm
 have kV':∀m W,Below w.heap.size w W→CallsIn Fence.wide m Tryz.prog 52 #[t.nd.v] W fun e W'=>e=.returned (.bool true)∧Below W.heap.size W W':=fun m W hB=>by
  rw[t2]
  refine callsIn_wide.2 (((kV (h:=h)).run W (hw.below hB) hg).mono fun e W' hp=>?_)
  cases e with
  |returned v=>obtain⟨h',p1,_,_,_,rfl⟩:=hp;exact⟨rfl,p1⟩
  |panicked ch=>obtain⟨_,_,_,_,_,hp⟩:=hp;exact(hp:False).elim
  |outgrown=>exact(hp:False).elim
 rw[←t3] at hN
 have kk:=varsX_in t1 hN kV'
 rw[t2,t3] at kk
 refine(callsIn_wide.1 kk).mono fun e w' hp=>?_
 obtain⟨r,ns,rfl,hns,hr,hB⟩:=hp
 rcases hr.2 with⟨rfl,h1⟩ |⟨g,cap,cur,rfl,hge,hh,hn,hmx,hs,ht⟩
 ·refine⟨h,hB,hw.below hB,fun _ _ q=>q,fun _ q=>.inl q,none,0,ns,by rw[h1],by omega,hns,fun i s hi=>?_⟩
  rw[List.length_eq_zero_iff.1 h1] at hi
  cases hi
 ·have hgn:h g=none:=by
   cases e:h g with
   |none=>rfl
   |some cs=>have:=hw.lt e;omega
  refine⟨fun k=>if k=g then some cur else h k,hB,fun k cs hx=>?_,fun k cs hx=>?_,fun k hx=>?_,some ⟨g,0,none⟩,cap,ns,rfl,by unfold maxLen at hmx;omega,hns,fun i s hi=>⟨_,rfl,?_⟩⟩
  ·have hx:(if k=g then some cur else h k)=some cs:=hx
   by_cases e:k=g
   ·rw[if_pos e] at hx;cases hx;exact⟨_,_,e▸hh⟩
   ·rw[if_neg e] at hx;exact(hw.below hB) _ _ hx
  ·show(if k=g then some cur else h k)=some cs
   rw[if_neg (fun e=>by rw[e,hgn] at hx;cases hx)];exact hx
  ·have hx:(if k=g then some cur else h k)≠none:=hx
   by_cases e:k=g
   ·exact .inr (e▸hge)
   ·rw[if_neg e] at hx;exact .inl hx
  ·have e0:cur[i]?=some (.string ⟨s.toArray⟩):=by
    have q:=congrArg (·[i]?) ht
    have hil:i < ns.length:=(List.getElem?_eq_some_iff.1 hi).1
    rw[List.getElem?_take,if_pos (by omega),List.getElem?_map,hi] at q
    rw[←Array.getElem?_toList]
    exact q
   rw[adr_none]
   unfold PH.at
   simp[e0]
end Go.Q
namespace Go.Q
open Go.Proofs
set_option maxRecDepth 100000
set_option maxHeartbeats 8000000
theorem ptE_nz {y:Bool×Nat×Nat} {e:Int} (hP:ptE y=.error e):e≠0:=fun h=>by
 unfold ptE RI.fin at hP
 subst h
 cases g:(ptR y).big with
 |true=>rw[g] at hP;cases hP
 | false=>
  rw[g,cond_false] at hP
  unfold Out.fin at hP
  dsimp only at hP
  cases e2:decide ((ptR y).set.le 2048) with
  |false=>rw[e2] at hP;cases hP
  |true=>rw[e2] at hP;cases hP
def rdE (p:Int) (y:Bool×Nat×Nat):Out:=match ptE y with
 |.error e=>.error e
 |.ok z=>rndE p z.ri
theorem Rounded_spec {h0 h:PH} [Le h0 h] {w:Value} {y:Bool×Nat×Nat} {p:Int} (hw:Rw h0 w y.1 y.2.1 y.2.2):
  Spec mach 95 #[w,.int .i64 p] h (fun r h'=>Ir h' r (rdE p y)) NP:=by
 have kP:∀{h:PH} [Le h0 h],Spec mach 61 #[w] h (fun r h'=>Ir h' r (ptE y)) NP:=fun {h} [Le h0 h]=>EE (h:=h) hw
 obtain⟨_,_,_,_,_,_,_,rfl,_⟩:=hw.sa
 unfold rdE
 cases hP:ptE y with
 | error e=>
  rw[hP] at kP
  unfold Ir zIv at kP
  have he2:(e != 0)=true:=by simpa using ptE_nz hP
  refine Spec.go [] Tryz.func95 rfl rfl (by kernel_rfl) fun C _=>?_
  try simp(maxSteps:=999999) (disch:=omega) only[go_sem,ξ,ζ]
  refine caN (by exact kP) ?_;rintro _ h1 s1 rfl
  try simp(maxSteps:=999999) (disch:=omega) only[go_sem,ξ,ζ,he2]
  all_goals rfl
 | ok z=>
  rw[hP] at kP
  refine Spec.go [] Tryz.func95 rfl rfl (by kernel_rfl) fun C _=>?_
  try simp(maxSteps:=999999) (disch:=omega) only[go_sem,ξ,ζ]
  refine caN (by exact kP) ?_;rintro _ h1 s1 ⟨u,rfl,hu⟩;obtain⟨_,_,_,_,_,_,_,_,_,_,_,_,_,_,_,_,rfl,hu⟩:=hu.sa
  try simp(maxSteps:=999999) (disch:=omega) only[go_sem,ξ,ζ]
  have kS:=du (h0:=h1) (h:=h1) (p:=p) (hu.iv (fin_le hP))
  refine caN (by exact kS) ?_;rintro _ h2 s2 r2;obtain⟨_,_,_,_,_,_,_,_,_,_,_,_,_,_,_,_,_,rfl,r2⟩:=r2.sa
  try simp(maxSteps:=999999) (disch:=omega) only[go_sem,ξ,ζ]
  all_goals exact r2
def bxF (l:List Sd1) (s:ByteArray):RI:=match fnd l s with
 | some i=>match l[i]? with
  |some x=>x.2
  |none=>⟨false,0,0,false,0,0,false,false⟩
 |none=>⟨false,0,0,false,0,0,false,false⟩
theorem btw_rqX {x y:Rat} (h:x≤y):RI.fin ⟨decide (x.num < 0),x.num.natAbs,if x.den=1 then 0 else x.den,decide (y.num < 0),y.num.natAbs,if y.den=1 then 0 else y.den,false,false⟩ (.ok (RI.set ⟨decide (x.num < 0),x.num.natAbs,if x.den=1 then 0 else x.den,decide (y.num < 0),y.num.natAbs,if y.den=1 then 0 else y.den,false,false⟩))=Out.fin (.ok (.i (some x) (some y))):=by
 have e:RI.set ⟨decide (x.num < 0),x.num.natAbs,if x.den=1 then 0 else x.den,decide (y.num < 0),y.num.natAbs,if y.den=1 then 0 else y.den,false,false⟩=.i (some x) (some y):=by
  unfold RI.set RI.lo RI.hi
  dsimp only
  rw[jA,jA]
  have:ordO (some x) (some y)=true:=by unfold ordO;simp;grind
  simp only[cond_false,NS.mk',this,cond_true]
 rw[e]
 unfold RI.fin RI.big
 by_cases h1:2048 < sz x
 ·have e1:decide (lg (decide (x.num < 0)) x.num.natAbs (if x.den=1 then 0 else x.den))=true:=decide_eq_true (lg_cn.2 h1)
  simp only[e1,Bool.true_or,cond_true]
  unfold Out.fin
  have:¬(NS.i (some x) (some y)).le 2048:=fun k=>by have:=(NS.le_i.1 k).1 x rfl;omega
  simp only[this,decide_false,cond_false]
 ·have e1:decide (lg (decide (x.num < 0)) x.num.natAbs (if x.den=1 then 0 else x.den))=false:=decide_eq_false (fun k=>h1 (lg_cn.1 k))
  by_cases h2:2048 < sz y
  ·have e2:decide (lg (decide (y.num < 0)) y.num.natAbs (if y.den=1 then 0 else y.den))=true:=decide_eq_true (lg_cn.2 h2)
   simp only[e1,e2,Bool.or_true,cond_true]
   unfold Out.fin
   have:¬(NS.i (some x) (some y)).le 2048:=fun k=>by have:=(NS.le_i.1 k).2 y rfl;omega
   simp only[this,decide_false,cond_false]
  ·have e2:decide (lg (decide (y.num < 0)) y.num.natAbs (if y.den=1 then 0 else y.den))=false:=decide_eq_false (fun k=>h2 (lg_cn.1 k))
   simp only[e1,e2,Bool.or_self,cond_false]
theorem pi_ord:∀p≤128,piL (p+32) / 2^32≤cdiv (piH (p+32)) (2^32):=by decide+kernel
theorem pi_sz:∀p≤128,sz (piLo p)≤2048∧sz (piHi p)≤2048:=by decide+kernel
theorem piLo_Hi {p:Nat} (hp:p≤128):piLo p≤piHi p:=DU (am _) (pi_ord p hp)
theorem Leaf_spec {h0 h:PH} [Le h0 h] {ev v:Value} {l:List Sd1} {op arg:Int} {num:Bool×Nat×Nat} {name:ByteArray} {a:Option Addr} {n c:Nat} {p:Int} (he:Ndv h0 ev op arg num name a n c) (hv:Boxv h0 v l) (gp:bad p=false):
  Spec mach 55 #[ev,v,.int .i64 p] h (fun r h'=>Ir h' r (leafE (bxF l) p op num name)) NP:=by
 obtain⟨a1,m1,c1,a2,m2,c2,rfl,hw⟩:=he
 have kR:=fun {h} [Le h0 h]=>Rounded_spec (h:=h) (p:=p) hw
 have kF:=fun {h} [Le h0 h]=>BFind_spec (h:=h) (s:=name) hv
 obtain⟨va,vm,vc,rfl⟩:=hv.sa
 unfold leafE
 by_cases e1:op=1
 ·subst e1
  rw[if_pos rfl]
  refine Spec.go [] Tryz.func55 rfl rfl (by kernel_rfl) fun C _=>?_
  try simp(maxSteps:=999999) (disch:=omega) only[go_sem,ξ,ζ]
  refine caN (by exact kR) ?_;rintro _ h2 s2 r2;obtain⟨_,_,_,_,_,_,_,_,_,_,_,_,_,_,_,_,_,rfl,r2⟩:=r2.sa
  try simp(maxSteps:=999999) (disch:=omega) only[go_sem,ξ,ζ]
  all_goals exact r2
 ·have f1:(op == 1)=false:=by simpa using e1
  rw[if_neg e1]
  by_cases e2:op=2
  ·subst e2
   rw[if_pos rfl]
   unfold Fnd at kF
   have kF':∀{h:PH} [Le h0 h],Spec mach 96 #[.slice va vm vc,.string name] h (fun r h'=>∃v b,r=.tuple #[v,.bool b]∧Iv h' v (bxF l name)) NP:=fun {h} [Le h0 h]=>kF.mono (fun r h' _ q=>by
    unfold bxF
    cases e:fnd l name with
    | none=>
     rw[e] at q
     exact⟨_,_,q,Iv.mk ((Cn.zero h').rw (by decide)) ((Cn.zero h').rw (by decide)) _ _⟩
    | some i=>
     rw[e] at q
     obtain⟨v,x,h1,h2,h3⟩:=q
     dsimp only
     rw[h1]
     exact⟨_,_,h2,h3⟩) (fun _ _ _ q=>q)
   refine Spec.go [] Tryz.func55 rfl rfl (by kernel_rfl) fun C _=>?_
   try simp(maxSteps:=999999) (disch:=omega) only[go_sem,ξ,ζ]
   refine caN (by exact kF') ?_;rintro _ h1 s1 ⟨u,b,rfl,hu⟩;obtain⟨_,_,_,_,_,_,_,_,_,_,_,_,rfl,_,_⟩:=hu.sa
   try simp(maxSteps:=999999) (disch:=omega) only[go_sem,ξ,ζ]
   have kS:=du (h0:=h1) (h:=h1) (p:=p) hu
   refine caN (by exact kS) ?_;rintro _ h2 s2 r2;obtain⟨_,_,_,_,_,_,_,_,_,_,_,_,_,_,_,_,_,rfl,r2⟩:=r2.sa
   try simp(maxSteps:=999999) (disch:=omega) only[go_sem,ξ,ζ]
   all_goals exact r2
  ·have f2:(op == 2)=false:=by simpa using e2
   rw[if_neg e2]
   obtain⟨hp0,hp1⟩:=jt gp
   obtain⟨q,rfl⟩:∃q:Nat,p=q:=⟨p.toNat,by omega⟩
   have hq:q≤128:=by omega
   refine Spec.go [] Tryz.func55 rfl rfl (by kernel_rfl) fun C _=>?_
   try simp(maxSteps:=999999) (disch:=omega) only[go_sem,ξ,ζ,f1,f2]
   refine caN (by exact FPi_ok hq) ?_;rintro _ h1 s1 ⟨_,_,_,_,_,_,_,_,_,_,_,_,_,_,rfl,r1,r2⟩
   try simp(maxSteps:=999999) (disch:=omega) only[go_sem,ξ,ζ]
   have kB:=oK (h0:=h1) (h:=h1) (r1.rw (χ (pi_sz q hq).1 (by decide))) (r2.rw (χ (pi_sz q hq).2 (by decide)))
   rw[btw_rqX (piLo_Hi hq)] at kB
   refine caN (by exact kB) ?_;rintro _ h2 s2 r2;obtain⟨_,_,_,_,_,_,_,_,_,_,_,_,_,_,_,_,_,rfl,r2⟩:=r2.sa
   try simp(maxSteps:=999999) (disch:=omega) only[go_sem,ξ,ζ]
   all_goals exact r2
theorem Nodes_spec (e:Exq):∀{h0 h:PH} [Le h0 h] {v:Value},Xv h0 e v→∀{n m:Nat},n≤m→m≤1000→Spec mach 17 #[v,.int .i64 n,.int .i64 m] h (fun r _=>∃k:Nat,r=.int .i64 k∧k≤m+1) NP:=by
  induction e with
  |no=>exact fun hv=>hv.elim
  | mk op arg num name nk kid ih=>
    intro h0 h _ v hv n m hn hm
    obtain⟨a,c,⟨a1,m1,c1,a2,m2,c2,rfl,_⟩,hk30,hk⟩:=hv
    refine Spec.go [] Tryz.func17 rfl rfl (by kernel_rfl) fun C _=>?_
    try simp(maxSteps:=999999) (disch:=omega) only[go_sem,ξ,ζ]
    refine lp [] (fun x:Nat×Nat=>⟨[(1,.v (.int .i64 x.1)),(2,.v (.int .i64 m)),(3,.p 0 0),(7,.v (.int .i64 x.2))],[[.int .i64 op,.int .i64 arg,.bool num.1,.slice a1 m1 c1,.slice a2 m2 c2,.string name,.slice a nk c]]⟩) (fun x h'=>Le h0 h'∧x.1≤m+1∧x.2≤nk) (fun x=>nk - x.2) (n+1,0) ?_ ⟨inferInstance,by show n+1≤m+1;omega,qBh _⟩ (by kernel_rfl) ?_
    · try simp(maxSteps:=999999) (disch:=omega) only[go_sem,ξ,ζ]
      all_goals rfl
    rintro⟨q,i⟩ h2 ⟨le2,h3,h4⟩
    dsimp only at h3 h4 ⊢
    by_cases hl:(i:Int) < (nk:Int)
    · by_cases hm':(q:Int)≤(m:Int)
      · obtain⟨ad,cs,rfl,hlen,hat,hkid⟩:=hk i (by omega)
        obtain⟨x1,x2,x3,x4,x5,x6,x7,rfl⟩:∃x1 x2 x3 x4 x5 x6 x7,cs=[x1,x2,x3,x4,x5,x6,x7]:=by
          match cs,hlen with
          |[x1,x2,x3,x4,x5,x6,x7],_=>exact⟨_,_,_,_,_,_,_,rfl⟩
        have kN:=fun {h} [Le h0 h]=>ih i (h:=h) hkid (n:=q) (m:=m) (by omega) hm
        try simp(maxSteps:=999999) (disch:=omega) only[go_sem,ξ,ζ,hl,hm',decide_true]
        refine Exists.intro [x1,x2,x3,x4,x5,x6,x7] (And.intro rfl (And.intro (fun j u hj=>le2.sub.at (hat j u hj)) ?_))
        try simp(maxSteps:=999999) (disch:=omega) only[go_sem,ξ,ζ]
        refine caN (by exact kN) ?_;rintro _ h5 s5 ⟨q',rfl,hq'⟩
        try simp(maxSteps:=999999) (disch:=omega) only[go_sem,ξ,ζ]
        dsimp only[lpE];refine⟨(q',i+1),?_,⟨inferInstance,hq',by show i+1≤nk;omega⟩,by show nk - (i+1) < nk - i;omega⟩
        try simp(maxSteps:=999999) (disch:=omega) only[go_sem,ξ,ζ]
        all_goals rfl
      · try simp(maxSteps:=999999) (disch:=omega) only[go_sem,ξ,ζ,hl,hm',decide_true,decide_false]
        exact⟨q,rfl,h3⟩
    · try simp(maxSteps:=999999) (disch:=omega) only[go_sem,ξ,ζ,hl,decide_false]
      exact⟨q,rfl,h3⟩
theorem Heavy_spec {h0 h:PH} [Le h0 h] {v:Value} {e:Exq} (hv:Xv h0 e v) {p:Int} {m:Nat} (hm:m≤1000):Spec mach 6 #[v,.int .i64 p,.int .i64 m] h (fun r _=>∃b,r=.bool b) NP:=by
 have kN:∀{k:Nat},k≤1000→∀{h:PH} [Le h0 h],Spec mach 17 #[v,.int .i64 0,.int .i64 k] h (fun r _=>∃q:Nat,r=.int .i64 q∧q≤k+1) NP:=fun {k} hk {h} [Le h0 h]=>Nodes_spec e (h:=h) hv (n:=0) (m:=k) (qBh _) hk
 obtain _ |⟨op,arg,num,name,nk,kid⟩:=e
 ·exact hv.elim
 obtain⟨a,c,⟨a1,m1,c1,a2,m2,c2,rfl,_⟩,_⟩:=hv
 by_cases h1:p > 48
 ·refine Spec.go [] Tryz.func6 rfl rfl (by kernel_rfl) fun C _=>?_
  try simp(maxSteps:=999999) (disch:=omega) only[go_sem,ξ,ζ,h1,decide_true]
  refine caN (by exact kN (k:=m / 3) (by omega)) ?_;rintro _ h5 s5 ⟨q',rfl,hq'⟩
  try simp(maxSteps:=999999) (disch:=omega) only[go_sem,ξ,ζ]
  exact⟨_,rfl⟩
 ·refine Spec.go [] Tryz.func6 rfl rfl (by kernel_rfl) fun C _=>?_
  try simp(maxSteps:=999999) (disch:=omega) only[go_sem,ξ,ζ,h1,decide_false]
  refine caN (by exact kN hm) ?_;rintro _ h5 s5 ⟨q',rfl,hq'⟩
  try simp(maxSteps:=999999) (disch:=omega) only[go_sem,ξ,ζ]
  exact⟨_,rfl⟩
def woX:Exq→Prop
 |.no=>False
 |.mk op _ _ _ n kid=>(op≠10∧op≠11∧op≠15)∧∀i,i < n→woX (kid i)
theorem Without_spec (e:Exq):∃b:Bool,(b=true→woX e)∧∀{h0 h:PH} [Le h0 h] {v:Value},Xv h0 e v→Spec mach 7 #[v] h (fun r _=>r=.bool b) NP:=by
 induction e with
 |no=>exact⟨false,fun h=>(by cases h),fun hv=>hv.elim⟩
 | mk op arg num name nk kid ih=>
  obtain⟨B,hB⟩:=Classical.axiomOfChoice ih
  by_cases hop:op=10∨op=11∨op=15
  ·refine⟨false,fun h=>(by cases h),fun {h0 h} _ {v} hv=>?_⟩
   obtain⟨a,c,⟨a1,m1,c1,a2,m2,c2,rfl,_⟩,hk30,hk⟩:=hv
   have f1:(op == 10 || (op == 11 || op == 15))=true:=by simpa using hop
   rcases Bool.eq_false_or_eq_true (op == 10) with g1 |g1
   ·refine Spec.go [] Tryz.func7 rfl rfl (by kernel_rfl) fun C _=>?_
    try simp(maxSteps:=999999) (disch:=omega) only[go_sem,ξ,ζ,g1]
    all_goals rfl
   ·rcases Bool.eq_false_or_eq_true (op == 11) with g2 |g2
    ·refine Spec.go [] Tryz.func7 rfl rfl (by kernel_rfl) fun C _=>?_
     try simp(maxSteps:=999999) (disch:=omega) only[go_sem,ξ,ζ,g1,g2]
     all_goals rfl
    ·have g3:(op == 15)=true:=by rw[g1,g2] at f1;simpa using f1
     refine Spec.go [] Tryz.func7 rfl rfl (by kernel_rfl) fun C _=>?_
     try simp(maxSteps:=999999) (disch:=omega) only[go_sem,ξ,ζ,g1,g2,g3]
     all_goals rfl
  ·have g1 :(op == 10)=false:=by simp;omega
   have g2:(op == 11)=false:=by simp;omega
   have g3:(op == 15)=false:=by simp;omega
   refine⟨(List.range nk).all B,fun h=>⟨by omega,fun i hi=>(hB i).1 (qBd.1 h i (List.mem_range.2 hi))⟩,fun {h0 h} _ {v} hv=>?_⟩
   obtain⟨a,c,⟨a1,m1,c1,a2,m2,c2,rfl,_⟩,hk30,hk⟩:=hv
   refine Spec.go [] Tryz.func7 rfl rfl (by kernel_rfl) fun C _=>?_
   try simp(maxSteps:=999999) (disch:=omega) only[go_sem,ξ,ζ,g1,g2,g3]
   refine lp [] (fun i:Nat=>⟨[(19,.v (.slice a nk c)),(20,.v (.int .i64 nk)),(21,.v (.int .i64 i))],[]⟩) (fun i h'=>Le h0 h'∧i≤nk∧∀j,j < i→B j=true) (fun i=>nk - i) 0 ?_ ⟨inferInstance,qBh _,fun j hj=>by omega⟩ (by kernel_rfl) ?_
   ·try simp(maxSteps:=999999) (disch:=omega) only[go_sem,ξ,ζ]
    all_goals rfl
   rintro i h2 ⟨le2,hi,hall⟩
   by_cases hl:(i:Int) < (nk:Int)
   ·obtain⟨ad,cs,rfl,hlen,hat,hkid⟩:=hk i (by omega)
    obtain⟨y1,y2,y3,y4,y5,y6,y7,y8,y9,y10,y11,y12,y13,rfl⟩:=hkid.cs
    have kN:=fun {h} [Le h0 h]=>(hB i).2 (h:=h) hkid
    cases hb:B i with
    | true=>
     rw[hb] at kN
     try simp(maxSteps:=999999) (disch:=omega) only[go_sem,ξ,ζ,hl,decide_true]
     refine Exists.intro [_,_,_,_,_,_,_] (And.intro rfl (And.intro (fun j u hj=>le2.sub.at (hat j u hj)) ?_))
     try simp(maxSteps:=999999) (disch:=omega) only[go_sem,ξ,ζ]
     refine caN (by exact kN) ?_;rintro _ h5 s5 rfl
     try simp(maxSteps:=999999) (disch:=omega) only[go_sem,ξ,ζ]
     dsimp only[lpE];refine⟨i+1,?_,⟨inferInstance,by omega,fun j hj=>?_⟩,by omega⟩
     ·try simp(maxSteps:=999999) (disch:=omega) only[go_sem,ξ,ζ]
      all_goals rfl
     ·rcases qBj j i with g |g
      ·exact hall j g
      ·obtain rfl:j=i:=by omega
       exact hb
    | false=>
     rw[hb] at kN
     have hf:(List.range nk).all B=false:=List.all_eq_false.2 ⟨i,List.mem_range.2 (by omega),by rw[hb];decide⟩
     rw[hf]
     try simp(maxSteps:=999999) (disch:=omega) only[go_sem,ξ,ζ,hl,decide_true]
     refine Exists.intro [_,_,_,_,_,_,_] (And.intro rfl (And.intro (fun j u hj=>le2.sub.at (hat j u hj)) ?_))
     try simp(maxSteps:=999999) (disch:=omega) only[go_sem,ξ,ζ]
     refine caN (by exact kN) ?_;rintro _ h5 s5 rfl
     try simp(maxSteps:=999999) (disch:=omega) only[go_sem,ξ,ζ]
     all_goals rfl
   ·obtain rfl:i=nk:=by omega
    have hf:(List.range i).all B=true:=qBd.2 fun j hj=>hall j (List.mem_range.1 hj)
    rw[hf]
    try simp(maxSteps:=999999) (disch:=omega) only[go_sem,ξ,ζ,hl,decide_false]
    all_goals rfl
end Go.Q
namespace Go.Q
open Go.Proofs
open Go.RowKit (Below)
set_option maxRecDepth 100000
set_option maxHeartbeats 4000000
end Go.Q
namespace Go.Q
open Go.Proofs
set_option maxRecDepth 100000
set_option maxHeartbeats 4000000
def midQ:NS→Rat
 |.e=>0
 |.i none none=>((0:Int):Rat)
 |.i (some a) none=>a+((1:Int):Rat)
 |.i none (some b)=>b+((-1:Int):Rat)
 |.i (some a) (some b)=>(a+b) / 2
def cq (x:Sd1):ByteArray×Rat:=(x.1,midQ x.2.set)
theorem map_take {α β:Type} {f:α→β} {l:List α} {i:Nat} {y:α} (hy:l[i]?=some y):(l.take (i+1)).map f=(l.take i).map f ++[f y]:=by
 rw[List.take_add_one,hy];simp
set_option maxHeartbeats 8000000

theorem okB_big {l:List Sd1} (h:okB l=true) {i:Nat} {x:Sd1} (hx:l[i]?=some x):x.2.big=false:=by
 unfold okB at h
 rw[φ] at h
 have:=qBd.1 h.2 i (List.mem_range.2 (List.getElem?_eq_some_iff.1 hx).1)
 unfold okS at this
 rw[hx] at this
 simp only[φ,Bool.not_eq_true'] at this
 exact this.1.2
theorem Boxv.side {h:PH} {v:Value} {l:List Sd1} (r:Boxv h v l):∃a c,v=.slice a l.length c∧l.length≤2^30∧∀i x,l[i]?=some x→∃ad a1 m1 c1 a2 m2 c2 a3 m3 c3 a4 m4 c4,a=some ad∧
  (∀j v,([.string x.1,.bool x.2.n1,.slice a1 m1 c1,.slice a2 m2 c2,.bool x.2.n2,.slice a3 m3 c3,.slice a4 m4 c4,.bool x.2.l,.bool x.2.u]:List Value)[j]?=some v→h.at ((ad.add (i*9)).add j)=some v)∧
  Rw h (.agg #[.bool x.2.n1,.slice a1 m1 c1,.slice a2 m2 c2]) x.2.n1 x.2.a1 x.2.d1∧Rw h (.agg #[.bool x.2.n2,.slice a3 m3 c3,.slice a4 m4 c4]) x.2.n2 x.2.a2 x.2.d2∧Iv h (.agg #[.bool x.2.n1,.slice a1 m1 c1,.slice a2 m2 c2,.bool x.2.n2,.slice a3 m3 c3,.slice a4 m4 c4,.bool x.2.l,.bool x.2.u]) x.2:=by
 obtain⟨a,c,rfl,hl,k⟩:=r
 refine⟨a,c,rfl,hl,fun i x hx=>?_⟩
 obtain⟨ad,b1,a1,m1,c1,a2,m2,c2,b2,a3,m3,c3,a4,m4,c4,e,u,rfl,hat,hiv⟩:=k i x hx
 obtain⟨_,_,_,_,_,_,_,_,_,_,_,_,e0,r1,r2⟩:=hiv.sa
 have e1:=e0
 simp only[Value.agg.injEq,Array.mk.injEq,List.cons.injEq,and_true,Value.bool.injEq] at e1
 obtain⟨rfl,g1,g2,rfl,g3,g4,rfl,rfl⟩:=e1
 rw[←g1,←g2] at r1
 rw[←g3,←g4] at r2
 exact⟨ad,a1,m1,c1,a2,m2,c2,a3,m3,c3,a4,m4,c4,rfl,hat,r1,r2,hiv⟩
end Go.Q
namespace Go.Q
open Go.Proofs Go.RowKit
attribute [local go_sem] Oper.semAt_some
set_option maxRecDepth 100000
set_option maxHeartbeats 4000000
theorem Has.set {W:World} {h:PH} (hh:Has W h) {b:Nat} (hb:h b=none) (v:Value):Has (W.setCell ⟨b,0,none⟩ v) h:=hh.kept (grownBy_setCell' W b v) (fun r e=>by cases e;exact hb)
end Go.Q
namespace Go.Q
open Go.Proofs
set_option maxRecDepth 100000
set_option maxHeartbeats 4000000
theorem NS.le.lesser {x y:NS} {k:Nat} (hx:x.le k) (hy:y.le k):(x.lesser y).le k:=by
 cases x with
 |e=>rfl
 | i a b =>
  cases y with
  |e=>rfl
  | i c d=>
   rw[NS.le_i] at hx hy
   show NS.le k (.i (jmin a c) (omin b d))
   rw[NS.le_i]
   refine⟨fun q e=>?_,fun q e=>?_⟩
   ·cases a with
    |none=>cases e
    | some a=>
     cases c with
     |none=>cases e
     |some c=>cases e;exact py (hx.1 _ rfl) (hy.1 _ rfl)
   ·cases b with
    |none=>exact hy.2 _ e
    | some b=>
     cases d with
     |none=>exact hx.2 _ e
     |some d=>cases e;exact py (hx.2 _ rfl) (hy.2 _ rfl)
set_option maxHeartbeats 8000000
@[reducible] def Pt.val:Pt→Rat
 |.fin q=>q
 |.inf _=>0
def Pt.sg:Pt→Int
 |.fin q=>sgn3 q
 |.inf u=>if u=true then 1 else -1
theorem Pt.mul_zero {x y:Pt} (h:x.sg=0∨y.sg=0):x.mul y=.fin 0:=by
 cases x with
 | fin p=>cases y with
  | fin q=>
   show Pt.fin (p*q)=_
   rcases h with h |h
   ·have:=sgn3_zero.1 (show sgn3 p=0 from h);subst this;rw[Rat.zero_mul]
   ·have:=sgn3_zero.1 (show sgn3 q=0 from h);subst this;rw[Rat.mul_zero]
  | inf u=>
   have:=sgn3_zero.1 (show sgn3 p=0 from h.resolve_right (by cases u<;>simp[Pt.sg]));subst this;simp[Pt.mul]
 | inf u=>cases y with
  | fin q=>
   have:=sgn3_zero.1 (show sgn3 q=0 from h.resolve_left (by cases u<;>simp[Pt.sg]));subst this;simp[Pt.mul]
  |inf w=>rcases h with h |h<;>(revert h;cases u<;>cases w<;>simp[Pt.sg])
set_option maxHeartbeats 16000000

theorem Br.u {r r':Value} {o:Except Int Bool} (h:Br r o) (h':Br r' o):r'=r:=by
 cases o with
 |ok b=>cases(h:r=_);exact h'
 |error e=>cases(h:r=_);exact h'

open Go.Proofs Go.RowKit
attribute [local go_sem] Oper.semAt_some
section
variable {F:Fence} {n:Nat} {P:Program} {Q:Exit→Act→World→Prop} {o:Oper} {a:Act} {w:World} {K:Act→World→Prop}
end
theorem c8 {w:World} {b o:Nat} {v0 v1 v2 v3 v4 v5 v6 v7:Value} (h:∀(t:Nat) u,([v0,v1,v2,v3,v4,v5,v6,v7]:List Value)[t]?=some u→w.cell? ⟨b,o+t,none⟩=some u):w.cell? ⟨b,o,none⟩=some v0∧w.cell? ⟨b,o+1,none⟩=some v1∧w.cell? ⟨b,o+2,none⟩=some v2∧w.cell? ⟨b,o+3,none⟩=some v3∧w.cell? ⟨b,o+4,none⟩=some v4∧w.cell? ⟨b,o+5,none⟩=some v5∧w.cell? ⟨b,o+6,none⟩=some v6∧w.cell? ⟨b,o+7,none⟩=some v7:=
 ⟨h 0 _ rfl,h 1 _ rfl,h 2 _ rfl,h 3 _ rfl,h 4 _ rfl,h 5 _ rfl,h 6 _ rfl,h 7 _ rfl⟩
section
variable {W0:World} {h0:PH} {WB off n:Nat} {g cp:Nat→Nat} {M:Nat→Nat→RI} {W:World} {hp:PH}
end
def Enz (o:Out):Prop:=∀e,o=.error e→e≠0
theorem prec_nz {p:Int} {o:Out} (h:Enz o):Enz (Out.prec p o):=fun e he=>by
 unfold Out.prec at he
 cases g:bad p with
 |true=>rw[g] at he;cases he;decide
 |false=>rw[g] at he;exact h e he
theorem rnd_nz {p:Int} {x y:NS} {o:Out} (h:Enz o):Enz (rnd p x y o):=prec_nz fun e he=>by
 cases g:(x.void || y.void) with
 |true=>rw[g] at he;cases he
 | false=>
  rw[g] at he
  cases o with
  |error e'=>cases he;exact h _ rfl
  |ok z=>cases he
theorem fin2_nz {x y:RI} {o:Out} (h:Enz o):Enz (x.fin2 y o):=fun e he=>by
 unfold RI.fin2 at he
 cases g:(x.big || y.big) with
 |true=>rw[g] at he;cases he;decide
 | false=>
  rw[g,cond_false] at he
  cases o with
  |error e'=>cases he;exact h _ rfl
  | ok z=>
   unfold Out.fin at he
   dsimp only at he
   cases g:decide (z.le 2048) with
   |true=>rw[g] at he;cases he
   |false=>rw[g] at he;cases he;decide
theorem mulE_nz {p:Int} {x y:RI}:Enz (mulE p x y):=fin2_nz (rnd_nz fun e he=>by cases he)
theorem subE_nz {p:Int} {x y:RI}:Enz (subE p x y):=fin2_nz (rnd_nz fun e he=>by cases he)
theorem divE_nz {p:Int} {x y:RI}:Enz (divE p x y):=fin2_nz (rnd_nz fun e he=>by
 unfold divO at he
 cases g:y.set.zero with
 |true=>rw[g] at he;cases he;decide
 |false=>rw[g] at he;cases he)
theorem Ir.bad {h:PH} {u:Value} {e:Int} {o:Out} (k:Ir h (.tuple #[u,.int .i64 e]) o) (he:e≠0):okE o=false:=by
 cases o with
 |error e'=>rfl
 |ok z=>obtain⟨_,e1,_⟩:=k;simp at e1;exact absurd e1.2 he
theorem Iv.e8 {h:PH} {l:List Value} {x:RI} (r:Iv h (.agg l.toArray) x):l.length=8∧l.all Value.oneCell'=true:=by
 obtain⟨_,_,_,_,_,_,_,_,_,_,_,_,e,_,_⟩:=r.sa
 have e:l=_:=congrArg Array.toList (Value.agg.inj e)
 subst e;exact⟨rfl,rfl⟩
end Go.Q
namespace Go.Q
open Go.Proofs Go.RowKit
attribute [local go_sem] Oper.semAt_some
set_option maxRecDepth 100000
set_option maxHeartbeats 16000000
def addE (p:Int) (x y:RI):Out:=x.fin2 y (rnd p x.set y.set (.ok (x.set.sum y.set)))
theorem addE_nz {p:Int} {x y:RI}:Enz (addE p x y):=fin2_nz (rnd_nz fun e he=>by cases he)
end Go.Q
namespace Go.Q
open Go.Proofs Go.RowKit
attribute [local go_sem] Oper.semAt_some
set_option maxRecDepth 100000
set_option maxHeartbeats 16000000
end Go.Q
namespace Go.Q
set_option maxHeartbeats 4000000
open Go.Proofs
set_option maxRecDepth 100000
open Go.Proofs Go.RowKit
open Classical in
section
variable {w:World} {h:PH} {WB off n:Nat} {g cp:Nat→Nat} {M:Nat→Nat→RI} {W:World} {hp:PH}
end
section
variable {w:World} {h:PH} {n WB:Nat} {T E:TypeId} {M:Nat→Nat→RI} {i:Nat} {row:List RI} {W:World} {hp:PH} {g cp:Nat→Nat} {v:Value}
end



theorem x9 {x y:NS} {u v:Rat} (hu:x.has u=true) (hv:y.has v=true):(x.lesser y).has (min u v)=true:=by
 cases x with
 |e=>cases hu
 | i a b =>
  cases y with
  |e=>cases hv
  | i c d=>
   rw[NS.has_i] at hu hv
   show(NS.i (jmin a c) (omin b d)).has (min u v)=true
   rw[NS.has_i]
   refine⟨fun z e=>?_,fun z e=>?_⟩
   ·cases a with
    |none=>cases e
    | some a=>cases c with
     |none=>cases e
     |some c=>cases e;have:=hu.1 a rfl;have:=hv.1 c rfl;grind
   ·cases b with
    | none=>cases d with
     |none=>cases e
     |some d=>cases e;have:=hv.2 z rfl;grind
    | some b=>cases d with
     |none=>cases e;have:=hu.2 z rfl;grind
     |some d=>cases e;have:=hu.2 b rfl;have:=hv.2 d rfl;grind



end Go.Q
namespace Go.Q
open Go.Proofs Go.RowKit
attribute [local go_sem] Oper.semAt_some
set_option maxRecDepth 100000
set_option maxHeartbeats 16000000
end Go.Q
namespace Go.Q
open Go.Proofs Go.RowKit
attribute [local go_sem] Oper.semAt_some
set_option maxRecDepth 100000
set_option maxHeartbeats 16000000
section
variable {w:World} {h:PH} {n:Nat} {T E:TypeId} {M:Nat→Nat→RI} {i:Nat} {W:World} {hp:PH} {g cp:Nat→Nat} {v:Value}
end
open Go.Proofs Go.Proofs.YtgmcchhklbeckaaGreatDoor
open Go.ChangeShapes Go.WideShapes Go.ChangeAt Go.RowKit
section
variable {H:Type} {enc:TypeId×Value→H} {W:World} {sp:Nat→Bool} {held:Bool}
end
open Go.Proofs

open Go.Proofs Go.RowKit
attribute [local go_sem] Oper.semAt_some
section
variable {w:World} {h:PH} {B T4:Nat} {p:Int} {o:Out} {W:World} {hp:PH}
end
def undE (e:Int):Int:=bif e == 10 then 5 else e
theorem Undefined_spec {e:Int} {h:PH}:Spec mach 24 #[.int .i64 e] h (fun r _=>r=.int .i64 (undE e)) NP:=by
 unfold undE
 cases he:e == 10 with
 | true=>
  refine Spec.go [] Tryz.func24 rfl rfl (by kernel_rfl) fun C _=>?_
  try simp(maxSteps:=999999) (disch:=omega) only[go_sem,ξ,ζ,he]
  all_goals rfl
 | false=>
  refine Spec.go [] Tryz.func24 rfl rfl (by kernel_rfl) fun C _=>?_
  try simp(maxSteps:=999999) (disch:=omega) only[go_sem,ξ,ζ,he]
  all_goals rfl
end Go.Q
namespace Go.Q
open Go.Proofs Go.RowKit
attribute [local go_sem] Oper.semAt_some
set_option maxRecDepth 100000
set_option maxHeartbeats 16000000
end Go.Q
namespace Go.Q
set_option maxRecDepth 100000
set_option maxHeartbeats 4000000
theorem kidsO_err {f:Nat→Out} {i:Nat} {e:Int} (h:kidsO f i=.error e):∀k,kidsO f (i+k)=.error e
 |0=>h
 | k+1=>by
  show kidsO f (i+k+1)=_
  unfold kidsO
  rw[kidsO_err h k]
theorem kidsO_next {f:Nat→Out} {i:Nat} {l:List NS} {e:Int} (h:kidsO f i=.ok l) (g:f i=.error e):kidsO f (i+1)=.error e:=by
 unfold kidsO
 rw[h,g]
theorem kidsO_ok {f:Nat→Out} {i:Nat} {l:List NS} {z:NS} (h:kidsO f i=.ok l) (g:f i=.ok z):kidsO f (i+1)=.ok (l ++[z]):=by
 unfold kidsO
 rw[h,g]
theorem kidsO_len {f:Nat→Out}:∀{i:Nat} {l:List NS},kidsO f i=.ok l→l.length=i
 |0,l,h=>by cases h;rfl
 | i +1,l,h=>by
  unfold kidsO at h
  cases h1:kidsO f i with
  |error e=>rw[h1] at h;cases h
  | ok l'=>
   rw[h1] at h
   dsimp only at h
   cases h2:f i with
   |error e=>rw[h2] at h;cases h
   |ok z=>rw[h2] at h;cases h;simp[kidsO_len h1]
theorem kidsO_fst {f:Nat→Out}:∀{n:Nat} {e:Int},kidsO f n=.error e→∃i l,i < n∧kidsO f i=.ok l∧f i=.error e
 |0,e,h=>by cases h
 | n +1,e,h=>by
  unfold kidsO at h
  cases h1:kidsO f n with
  | error e'=>
   rw[h1] at h;cases h
   obtain⟨i,l,h2,h3,h4⟩:=kidsO_fst h1
   exact⟨i,l,by omega,h3,h4⟩
  | ok l=>
   rw[h1] at h
   dsimp only at h
   cases h2:f n with
   |error e'=>rw[h2] at h;cases h;exact⟨n,l,by omega,h1,h2⟩
   |ok z=>rw[h2] at h;cases h
open Go.Proofs
set_option maxHeartbeats 8000000
abbrev Pv1:=ByteArray×Bool×Nat×Nat
def Ptv (h:PH) (v:Value) (l:List Pv1):Prop:=∃a c,v=.slice a l.length c∧l.length≤2^30∧∀i s,l[i]?=some s→∃ad a1 m1 c1 a2 m2 c2,a=some ad∧
 (∀j v,([.string s.1,.bool s.2.1,.slice a1 m1 c1,.slice a2 m2 c2]:List Value)[j]?=some v→h.at ((ad.add (i*4)).add j)=some v)∧Rw h (.agg #[.bool s.2.1,.slice a1 m1 c1,.slice a2 m2 c2]) s.2.1 s.2.2.1 s.2.2.2
theorem Ptv.to {h h':PH} {v:Value} {l:List Pv1} (r:Ptv h v l) [t:Le h h']:Ptv h' v l:=by
 obtain⟨a,c,rfl,hl,k⟩:=r
 refine⟨a,c,rfl,hl,fun i s hi=>?_⟩
 obtain⟨ad,a1,m1,c1,a2,m2,c2,h1,h2,h3⟩:=k i s hi
 exact⟨ad,a1,m1,c1,a2,m2,c2,h1,fun j v hj=>t.sub.at (h2 j v hj),h3.to⟩
theorem Ptv.sa {h:PH} {v:Value} {l:List Pv1} (r:Ptv h v l):∃a m c,v=.slice a m c:=let ⟨a,c,h1,_⟩:=r;⟨a,_,c,h1⟩
def okP1 (l:List Pv1) (i:Nat):Bool:=match l[i]? with
 | some x=>nameB x.1 && (decide (i=0) || (match l[i - 1]? with
  |some y=>Op.bytesLess y.1.toList x.1.toList
  |none=>true)) && !decide (lg x.2.1 x.2.2.1 x.2.2.2)
 |none=>true
def okP (l:List Pv1):Bool:=(List.range l.length).all (okP1 l)
theorem okP_no {l:List Pv1} {i:Nat} (hi:i < l.length) (h:okP1 l i=false):okP l=false:=List.all_eq_false.2 ⟨i,List.mem_range.2 hi,by rw[h];decide⟩
theorem okP_yes {l:List Pv1} (h:∀j,j < l.length→okP1 l j=true):okP l=true:=qBd.2 fun j hj=>h j (List.mem_range.1 hj)
theorem NumSign_no {h0 h:PH} [Le h0 h] {v:Value} {neg:Bool} {n d:Nat} (hv:Rw h0 v neg n d) (hl:lg neg n d):Spec mach 29 #[v] h (fun r _=>r=.tuple #[.int .i64 0,.int .i64 1]) NP:=by
 have kX:=fun {h} [Le h0 h]=>Gm (h:=h) hv hl
 obtain⟨_,_,_,_,_,_,_,rfl,_⟩:=hv.sa
 refine Spec.go [] Tryz.func29 rfl rfl (by kernel_rfl) fun C _=>?_
 try simp(maxSteps:=999999) (disch:=omega) only[go_sem,ξ,ζ]
 refine caN (by exact kX) ?_;rintro v1 h1 s1 ⟨_,_,_,_,_,_,_,rfl⟩
 try simp(maxSteps:=999999) (disch:=omega) only[go_sem,ξ,ζ]
 all_goals rfl
theorem IsPoint_spec {h0 h:PH} [Le h0 h] {v:Value} {l:List Pv1} (hv:Ptv h0 v l):Spec mach 26 #[v] h (fun r _=>r=.bool (okP l)) NP:=by
  obtain⟨a,c,rfl,hl,k⟩:=hv
  refine Spec.go [] Tryz.func26 rfl rfl (by kernel_rfl) fun C _=>?_
  try simp(maxSteps:=999999) (disch:=omega) only[go_sem,ξ,ζ]
  refine lp [] (fun i:Nat=>⟨[(0,.v (.slice a l.length c)),(7,.v (.slice a l.length c)),(8,.v (.int .i64 l.length)),(9,.v (.int .i64 i))],[]⟩) (fun i h'=>Le h0 h'∧i≤l.length∧∀j,j < i→okP1 l j=true) (fun i=>l.length - i) 0 ?_ ⟨inferInstance,qBh _,fun j hj=>absurd hj (by omega)⟩ (by kernel_rfl) ?_
  · try simp(maxSteps:=999999) (disch:=omega) only[go_sem,ξ,ζ]
    all_goals rfl
  rintro i h2 ⟨le2,hi,hj⟩
  by_cases hlt:(i:Int) < l.length
  · obtain⟨x,hx⟩:∃x,l[i]?=some x:=⟨_,List.getElem?_eq_getElem (by omega)⟩
    obtain⟨ad,a1,m1,c1,a2,m2,c2,rfl,hat,hr⟩:=k i x hx
    try simp(maxSteps:=999999) (disch:=omega) only[go_sem,ξ,ζ,hlt,decide_true]
    refine Exists.intro [_,_,_,_] (And.intro rfl (And.intro (fun j v hj=>le2.sub.at (hat j v hj)) ?_))
    try simp(maxSteps:=999999) (disch:=omega) only[go_sem,ξ,ζ]
    refine caN (by exact IsName_spec) ?_;rintro v3 h3 s3 rfl
    try simp(maxSteps:=999999) (disch:=omega) only[go_sem,ξ,ζ]
    have big:decide (lg x.2.1 x.2.2.1 x.2.2.2)=true→okP1 l i=false:=fun g=>by unfold okP1;rw[hx];simp only[g];simp
    have nam:nameB x.1=false→okP1 l i=false:=fun g=>by unfold okP1;rw[hx];simp[g]
    have hi':i < l.length:=by omega
    cases hn:nameB x.1 with
    | false=>
      rw[okP_no hi' (nam hn)]
      try simp(maxSteps:=999999) (disch:=omega) only[go_sem,ξ,ζ,hn]
    | true=>
      have nxt:(decide (i=0) || (match l[i - 1]? with |some y=>Op.bytesLess y.1.toList x.1.toList |none=>true))=true→decide (lg x.2.1 x.2.2.1 x.2.2.2)=false→okP1 l i=true:=fun g1 g2=>by
        unfold okP1;rw[hx]
        show(nameB x.1 && _ && !_)=true
        rw[hn,g1,g2];rfl
      by_cases i0:(i:Int) > 0
      · obtain⟨y,hy⟩:∃y,l[i - 1]?=some y:=⟨_,List.getElem?_eq_getElem (by omega)⟩
        obtain⟨ad',_,_,_,_,_,_,ea,hat',_⟩:=k (i - 1) y hy
        cases ea
        have hyat:h0.at (ad.add ((i - 1)*4))=some (.string y.1):=hat' 0 _ rfl
        have ew:((i:Int) - 1).toNat=i - 1:=by omega
        try simp(maxSteps:=999999) (disch:=omega) only[go_sem,ξ,ζ,hn,i0,decide_true,ew]
        refine aE ((inferInstance:Le h0 h3).sub.at hyat) ?_
        try simp(maxSteps:=999999) (disch:=omega) only[go_sem,ξ,ζ]
        cases hB:Op.bytesLess y.1.toList x.1.toList with
        | false=>
          rw[okP_no hi' (by unfold okP1;rw[hx];simp only[hy,hB];rw[decide_eq_false (by omega)];simp)]
          try simp(maxSteps:=999999) (disch:=omega) only[go_sem,ξ,ζ,hB]
        | true=>
          try simp(maxSteps:=999999) (disch:=omega) only[go_sem,ξ,ζ,hB]
          cases gb:decide (lg x.2.1 x.2.2.1 x.2.2.2) with
          | true=>
            rw[okP_no hi' (big gb)]
            refine caN (by exact NumSign_no (hr.to (h':=h3)) (of_decide_eq_true gb)) ?_;rintro v4 h4 s4 rfl
            try simp(maxSteps:=999999) (disch:=omega) only[go_sem,ξ,ζ]
          | false=>
            refine caN (by exact NumSign (hr.to (h':=h3)) (of_decide_eq_false gb)) ?_;rintro v4 h4 s4 rfl
            try simp(maxSteps:=999999) (disch:=omega) only[go_sem,ξ,ζ]
            dsimp only[lpE];refine⟨i+1,?_,⟨inferInstance,by omega,fun j k=>?_⟩,by omega⟩
            · try simp(maxSteps:=999999) (disch:=omega) only[go_sem,ξ,ζ]
              all_goals rfl
            · rcases qBj j i with g |g
              · exact hj j g
              · obtain rfl:j=i:=by omega
                exact nxt (by rw[hy];simp[hB]) gb
      · try simp(maxSteps:=999999) (disch:=omega) only[go_sem,ξ,ζ,hn,i0,decide_false]
        cases gb:decide (lg x.2.1 x.2.2.1 x.2.2.2) with
        | true=>
          rw[okP_no hi' (big gb)]
          refine caN (by exact NumSign_no (hr.to (h':=h3)) (of_decide_eq_true gb)) ?_;rintro v4 h4 s4 rfl
          try simp(maxSteps:=999999) (disch:=omega) only[go_sem,ξ,ζ]
        | false=>
          refine caN (by exact NumSign (hr.to (h':=h3)) (of_decide_eq_false gb)) ?_;rintro v4 h4 s4 rfl
          try simp(maxSteps:=999999) (disch:=omega) only[go_sem,ξ,ζ]
          dsimp only[lpE];refine⟨i+1,?_,⟨inferInstance,by omega,fun j k=>?_⟩,by omega⟩
          · try simp(maxSteps:=999999) (disch:=omega) only[go_sem,ξ,ζ]
            all_goals rfl
          · rcases qBj j i with g |g
            · exact hj j g
            · obtain rfl:j=i:=by omega
              exact nxt (by rw[decide_eq_true (by omega)];rfl) gb
  · rw[okP_yes (fun j k=>hj j (by omega))]
    try simp(maxSteps:=999999) (disch:=omega) only[go_sem,ξ,ζ,hlt,decide_false]
def inS (b:List Sd1) (p:List Pv1) (i:Nat):Bool:=match b[i]?,p[i]? with
 |some x,some y=>y.1.toList == x.1.toList && x.2.set.has (qof y.2.1 y.2.2.1 y.2.2.2)
 |_,_=>true
def inB (b:List Sd1) (p:List Pv1):Bool:=decide (p.length=b.length) && (List.range p.length).all (inS b p)
theorem inB_no {b:List Sd1} {p:List Pv1} {i:Nat} (hi:i < p.length) (h:inS b p i=false):inB b p=false:=by
 unfold inB
 rw[Bool.and_eq_false_iff]
 exact .inr (List.all_eq_false.2 ⟨i,List.mem_range.2 hi,by rw[h];decide⟩)
theorem inB_yes {b:List Sd1} {p:List Pv1} (hl:p.length=b.length) (h:∀j,j < p.length→inS b p j=true):inB b p=true:=by
 unfold inB
 rw[decide_eq_true hl,Bool.true_and]
 exact qBd.2 fun j hj=>h j (List.mem_range.1 hj)
theorem okP_big {l:List Pv1} (h:okP l=true) {i:Nat} {x:Pv1} (hx:l[i]?=some x):¬lg x.2.1 x.2.2.1 x.2.2.2:=by
 have:=qBd.1 h i (List.mem_range.2 (List.getElem?_eq_some_iff.1 hx).1)
 unfold okP1 at this
 rw[hx] at this
 simp only[φ,Bool.not_eq_true',decide_eq_false_iff_not] at this
 exact this.2
theorem InBox_p {h0 h:PH} [Le h0 h] {v w:Value} {b:List Sd1} {p:List Pv1} (hv:Boxv h0 v b) (hw:Ptv h0 w p) (hb:okB b=true) (hp:okP p=true):Spec mach 27 #[v,w] h (fun r _=>r=.bool (inB b p)) NP:=by
 obtain⟨a,c,rfl,hl,k⟩:=hv.side
 obtain⟨a',c',rfl,hl',k'⟩:=hw
 by_cases hn:p.length=b.length
 ·have en : ((p.length:Int) != (b.length:Int))=false:=by simp[hn]
  refine Spec.go [] Tryz.func27 rfl rfl (by kernel_rfl) fun C _=>?_
  try simp(maxSteps:=999999) (disch:=omega) only[go_sem,ξ,ζ,en]
  refine lp [] (fun i:Nat=>⟨[(0,.v (.slice a b.length c)),(14,.v (.slice a' p.length c')),(15,.v (.int .i64 p.length)),(16,.v (.int .i64 i))],[]⟩) (fun i h'=>Le h0 h'∧i≤p.length∧∀j,j < i→inS b p j=true) (fun i=>p.length - i) 0 ?_ ⟨inferInstance,qBh _,fun j hj=>absurd hj (by omega)⟩ (by kernel_rfl) ?_
  ·try simp(maxSteps:=999999) (disch:=omega) only[go_sem,ξ,ζ]
   all_goals rfl
  rintro i h2 ⟨le2,hi,hj⟩
  by_cases hlt:(i:Int) < p.length
  ·obtain⟨y,hy⟩:∃y,p[i]?=some y:=⟨_,List.getElem?_eq_getElem (by omega)⟩
   obtain⟨x,hx⟩:∃x,b[i]?=some x:=⟨_,List.getElem?_eq_getElem (by omega)⟩
   obtain⟨ad,a1,m1,c1,a2,m2,c2,a3,m3,c3,a4,m4,c4,rfl,hat,r1,r2,hiv⟩:=k i x hx
   obtain⟨ad',b1,n1,d1,b2,n2,d2,rfl,hat',hr⟩:=k' i y hy
   have hlb:(i:Int) < b.length:=by omega
   have hx0:h0.at (ad.add (i*9))=some (.string x.1):=hat 0 _ rfl
   have eS:inS b p i=(y.1.toList == x.1.toList && x.2.set.has (qof y.2.1 y.2.2.1 y.2.2.2)):=by unfold inS;rw[hx,hy]
   have hi':i < p.length:=by omega
   try simp(maxSteps:=999999) (disch:=omega) only[go_sem,ξ,ζ,hlt,decide_true]
   refine Exists.intro [_,_,_,_] (And.intro rfl (And.intro (fun j v hj=>le2.sub.at (hat' j v hj)) ?_))
   try simp(maxSteps:=999999) (disch:=omega) only[go_sem,ξ,ζ]
   refine aE (le2.sub.at hx0) ?_
   try simp(maxSteps:=999999) (disch:=omega) only[go_sem,ξ,ζ]
   cases hE:(y.1.toList == x.1.toList) with
   | false=>
    rw[inB_no hi' (by rw[eS,hE];rfl)]
    try simp(maxSteps:=999999) (disch:=omega) only[go_sem,ξ,ζ,hE]
   | true=>
    try simp(maxSteps:=999999) (disch:=omega) only[go_sem,ξ,ζ,hE]
    refine Exists.intro [_,_,_,_,_,_,_,_] (And.intro rfl (And.intro (fun j v hj=>by rw[add_1];exact le2.sub.at (hat (j+1) v hj)) ?_))
    try simp(maxSteps:=999999) (disch:=omega) only[go_sem,ξ,ζ]
    have kH:=wP (h0:=h2) (h:=h2) hiv.to hr.to
    unfold hasO at kH
    rw[okB_big hb hx,decide_eq_false (okP_big hp hy),Bool.or_false,cond_false] at kH
    refine caN (by exact kH) ?_;rintro v4 h4 s4 q4;obtain rfl:v4=_:=q4
    try simp(maxSteps:=999999) (disch:=omega) only[go_sem,ξ,ζ]
    cases hH:x.2.set.has (qof y.2.1 y.2.2.1 y.2.2.2) with
    | false=>
     rw[inB_no hi' (by rw[eS,hE,hH];rfl)]
     try simp(maxSteps:=999999) (disch:=omega) only[go_sem,ξ,ζ,hH]
    | true=>
     try simp(maxSteps:=999999) (disch:=omega) only[go_sem,ξ,ζ,hH]
     dsimp only[lpE];refine⟨i+1,?_,⟨inferInstance,by omega,fun j k=>?_⟩,by omega⟩
     ·try simp(maxSteps:=999999) (disch:=omega) only[go_sem,ξ,ζ]
      all_goals rfl
     ·rcases qBj j i with g |g
      ·exact hj j g
      ·obtain rfl:j=i:=by omega
       rw[eS,hE,hH];rfl
  ·rw[inB_yes hn (fun j k=>hj j (by omega))]
   try simp(maxSteps:=999999) (disch:=omega) only[go_sem,ξ,ζ,hlt,decide_false]
 ·have en:((p.length:Int) != (b.length:Int))=true:=by simp;omega
  rw[show inB b p=false by unfold inB;rw[decide_eq_false hn];rfl]
  refine Spec.go [] Tryz.func27 rfl rfl (by kernel_rfl) fun C _=>?_
  try simp(maxSteps:=999999) (disch:=omega) only[go_sem,ξ,ζ,en]
section
variable {M:Mach} {C:Ctx} {n:Nat} {S:AS} {h:PH} {Q:Exit→AS→PH→Prop} {E:List PanicEntry→PH→Prop}
end
theorem pt_fin {b:Bool} {n d:Nat} (w:¬lg b n d):RI.fin ⟨b,n,d,b,n,d,false,false⟩ (.ok (RI.set ⟨b,n,d,b,n,d,false,false⟩))=.ok (.i (some (qof b n d)) (some (qof b n d))):=by
 have e1:RI.set ⟨b,n,d,b,n,d,false,false⟩=.i (some (qof b n d)) (some (qof b n d)):=by
  show NS.mk' (some (qof b n d)) (some (qof b n d))=_
  have:ordO (some (qof b n d)) (some (qof b n d))=true:=by simp[ordO]
  unfold NS.mk';rw[this];rfl
 have g:RI.big ⟨b,n,d,b,n,d,false,false⟩=false:=by simp[RI.big,w]
 have l:(NS.i (some (qof b n d)) (some (qof b n d))).le 2048:=by rw[←e1];exact RI.le g
 rw[e1]
 unfold RI.fin
 rw[g]
 show Out.fin (.ok _)=_
 unfold Out.fin
 simp[l]
def Qp (h:PH) (cs:List Value) (s:ByteArray×Rat):Prop:=∃ds:List Value,cs=.string s.1 :: ds∧ds.length=8∧Cv h (.agg ds.toArray) (.i (some s.2) (some s.2))
def Pbx (h:PH) (v:Value) (l:List (ByteArray×Rat)):Prop:=∃a c,v=.slice a l.length c∧∀i s,l[i]?=some s→∃ad cs,a=some ad∧Qp h cs s∧∀j v,cs[j]?=some v→h.at ((ad.add (i*9)).add j)=some v
theorem Pbx.of {h:PH} {b c:Nat} {row:List Value} {l:List (ByteArray×Rat)} (hb:h b=some row.toArray) (hr:RowOf 9 (Qp h) row l):Pbx h (.slice (some ⟨b,0,none⟩) l.length c) l:=by
 refine⟨_,_,rfl,fun i s hi=>⟨_,_,rfl,hr.2 i s hi,fun j v hj=>?_⟩⟩
 rw[at_off hb]
 rw[List.getElem?_take] at hj
 split at hj
 ·rw[List.getElem?_drop] at hj
  simpa using hj
 ·cases hj
def nq (y:Pv1):ByteArray×Rat:=(y.1,qof y.2.1 y.2.2.1 y.2.2.2)
theorem take_map {p:List Pv1} {i:Nat} {y:Pv1} (hy:p[i]?=some y):(p.take (i+1)).map nq=(p.take i).map nq ++[nq y]:=by
 rw[List.take_add_one,hy];simp
theorem PointBox_spec {h0 h:PH} [Le h0 h] {w:Value} {p:List Pv1} (hw:Ptv h0 w p) (hp:okP p=true) (h6:p.length≤6):Spec mach 28 #[w] h (fun r h'=>∃u,r=.tuple #[u,.int .i64 0]∧Pbx h' u (p.map nq)) NP:=by
 obtain⟨a,c,rfl,hl,k⟩:=hw
 refine Spec.go [(8,.x),(10,.x)] Tryz.func28 rfl rfl (by kernel_rfl) fun C _=>?_
 try simp(maxSteps:=999999) (disch:=omega) only[go_sem,ξ,ζ]
 refine lpSl [(8,.x),(10,.x)] (fun x:Option (Nat×Nat×List Value)=>match x with |none=>⟨[(4,.v (.slice none 0 0)),(9,.v (.slice a p.length c)),(10,.v (.int .i64 p.length)),(11,.v (.int .i64 0))],[]⟩ |some x=>⟨[(4,.s 0 0 x.1 x.2.1),(9,.v (.slice a p.length c)),(10,.v (.int .i64 p.length)),(11,.v (.int .i64 x.1))],[x.2.2]⟩) (fun x h'=>Le h0 h'∧match x with |none=>True |some x=>1≤x.1∧x.1≤p.length∧x.1≤x.2.1∧x.2.1*9=x.2.2.length∧RowOf 9 (Qp h') x.2.2 ((p.take x.1).map nq)) (fun x=>match x with |none=>p.length |some x=>p.length - x.1) none [] ?_ ⟨inferInstance,trivial⟩ (by kernel_rfl) ?_
 ·try simp(maxSteps:=999999) (disch:=omega) only[go_sem,ξ,ζ]
  all_goals rfl
 rintro(_ |⟨i,cap,row⟩) h2 ⟨le2,hr0⟩
 ·dsimp only
  by_cases hl:(0:Int) < (p.length:Int)
  ·obtain⟨y,hy⟩:∃y,p[0]?=some y:=⟨_,List.getElem?_eq_getElem (by omega)⟩
   obtain⟨ad,b1,n1,d1,b2,n2,d2,rfl,hat,hr⟩:=k 0 y hy
   have gp:=okP_big hp hy
   try simp(maxSteps:=999999) (disch:=omega) only[go_sem,ξ,ζ,hl,decide_true]
   refine Exists.intro [_,_,_,_] (And.intro rfl (And.intro (fun j v hj=>le2.sub.at (hat j v hj)) ?_))
   try simp(maxSteps:=999999) (disch:=omega) only[go_sem,ξ,ζ]
   have kP:=EE (h0:=h2) (h:=h2) hr.to
   rw[pt_fin gp] at kP
   refine caN (by exact kP) ?_;rintro r h3 s3 r3;obtain⟨u,rfl,c3⟩:=r3;obtain⟨x1,x2,x3,x4,x5,x6,x7,x8,x9,x10,x11,x12,x13,x14,x15,x16,rfl,c3⟩:=c3.sa
   try simp(maxSteps:=999999) (disch:=omega) only[go_sem,ξ,ζ]
   refine AWP_app (sz:=9) [.o 0,.o 1,.o 2,.o 3,.o 4,.o 5] 6 [.o 7] rfl (by kernel_rfl) (by kernel_rfl) (by rfl) (by decide) rfl rfl ?_
   try simp(maxSteps:=999999) (disch:=omega) only[go_sem,ξ,ζ,walk,appN,Nat.reduceMul]
   intro cap junk hc hj
   have hR:RowOf 9 (Qp h3) ([.string y.1,.bool x1,.slice x2 x3 x4,.slice x5 x6 x7,.bool x8,.slice x9 x10 x11,.slice x12 x13 x14,.bool x15,.bool x16] ++junk) ((p.take 1).map nq):=by
    rw[take_map hy]
    exact(RowOf.nil (sz:=9) (Q:=Qp h3) (row:=[])).app (cs:=[.string y.1,.bool x1,.slice x2 x3 x4,.slice x5 x6 x7,.bool x8,.slice x9 x10 x11,.slice x12 x13 x14,.bool x15,.bool x16]) (s:=nq y) rfl ⟨_,rfl,rfl,c3⟩ junk
   dsimp only[lpS]
   refine⟨some (1,cap,[.string y.1,.bool x1,.slice x2 x3 x4,.slice x5 x6 x7,.bool x8,.slice x9 x10 x11,.slice x12 x13 x14,.bool x15,.bool x16] ++junk),[3],?_,⟨inferInstance,η 1,by show 1≤p.length;omega,hc,by simp;omega,hR⟩,by show p.length - 1 < p.length;omega⟩
   try simp(maxSteps:=999999) (disch:=omega) only[go_sem,ξ,ζ]
   all_goals rfl
  ·try simp(maxSteps:=999999) (disch:=omega) only[go_sem,ξ,ζ,hl,decide_false]
   refine rn [] (by kernel_rfl) ?_
   try simp(maxSteps:=999999) (disch:=omega) only[go_sem,ξ,ζ]
   have e:p=[]:=List.length_eq_zero_iff.1 (by omega)
   subst e
   exact⟨_,rfl,_,_,rfl,fun i s hi=>by simp at hi⟩
 ·obtain⟨g1,g2,g3,g4,g5⟩:=hr0
  dsimp only at g1 g2 g3 g4 g5 ⊢
  by_cases hl:(i:Int) < (p.length:Int)
  ·obtain⟨y,hy⟩:∃y,p[i]?=some y:=⟨_,List.getElem?_eq_getElem (by omega)⟩
   obtain⟨ad,b1,n1,d1,b2,n2,d2,rfl,hat,hr⟩:=k i y hy
   have gp:=okP_big hp hy
   try simp(maxSteps:=999999) (disch:=omega) only[go_sem,ξ,ζ,hl,decide_true]
   refine Exists.intro [_,_,_,_] (And.intro rfl (And.intro (fun j v hj=>le2.sub.at (hat j v hj)) ?_))
   try simp(maxSteps:=999999) (disch:=omega) only[go_sem,ξ,ζ]
   have kP:=EE (h0:=h2) (h:=h2) hr.to
   rw[pt_fin gp] at kP
   refine caN (by exact kP) ?_;rintro r h3 s3 r3;obtain⟨u,rfl,c3⟩:=r3;obtain⟨x1,x2,x3,x4,x5,x6,x7,x8,x9,x10,x11,x12,x13,x14,x15,x16,rfl,c3⟩:=c3.sa
   try simp(maxSteps:=999999) (disch:=omega) only[go_sem,ξ,ζ]
   refine AWP_app (sz:=9) [.o 0,.o 1,.o 2,.o 3,.o 4,.o 5] 6 [.o 7] rfl (by kernel_rfl) (by kernel_rfl) (by rfl) (by decide) rfl rfl ?_
   try simp(maxSteps:=999999) (disch:=omega) only[go_sem,ξ,ζ,walk,appN,Nat.reduceMul]
   intro cap' junk hc hj
   have hR:RowOf 9 (Qp h3) (row.take (i*9) ++[.string y.1,.bool x1,.slice x2 x3 x4,.slice x5 x6 x7,.bool x8,.slice x9 x10 x11,.slice x12 x13 x14,.bool x15,.bool x16] ++junk) ((p.take (i+1)).map nq):=by
    rw[take_map hy]
    have:=(g5.mono fun cs s (q:Qp h2 cs s)=>(let ⟨ds,e1,e2,e3⟩:=q;⟨ds,e1,e2,e3.to⟩:Qp h3 cs s)).app (cs:=[.string y.1,.bool x1,.slice x2 x3 x4,.slice x5 x6 x7,.bool x8,.slice x9 x10 x11,.slice x12 x13 x14,.bool x15,.bool x16]) (s:=nq y) rfl ⟨_,rfl,rfl,c3⟩ junk
    rw[List.length_map,List.length_take,Nat.min_eq_left (by omega)] at this
    exact this
   dsimp only[lpS]
   refine⟨some (i+1,cap',row.take (i*9) ++[.string y.1,.bool x1,.slice x2 x3 x4,.slice x5 x6 x7,.bool x8,.slice x9 x10 x11,.slice x12 x13 x14,.bool x15,.bool x16] ++junk),[4],?_,⟨inferInstance,by show 1≤i+1;omega,by show i+1≤_;omega,hc,by simp;omega,hR⟩,by show p.length - (i+1) < p.length - i;omega⟩
   try simp(maxSteps:=999999) (disch:=omega) only[go_sem,ξ,ζ]
   all_goals rfl
  ·obtain rfl:i=p.length:=by omega
   rw[List.take_length] at g5
   try simp(maxSteps:=999999) (disch:=omega) only[go_sem,ξ,ζ,hl,decide_false]
   refine rn [(10,.t (.p 0 (.s [0,1,2] .d)))] (by kernel_rfl) ?_
   try simp(maxSteps:=999999) (disch:=omega) only[go_sem,ξ,ζ]
   intro b h3 st3 hb
   try simp(maxSteps:=999999) (disch:=omega) only[go_sem,ξ,ζ]
   have hb:=hb (fun e=>by rw[e] at g4;simp at g4;omega)
   have:=Pbx.of (c:=cap) hb (g5.mono fun cs s (q:Qp h2 cs s)=>(let ⟨ds,e1,e2,e3⟩:=q;⟨ds,e1,e2,e3.to⟩:Qp h3 cs s))
   rw[List.length_map] at this
   exact⟨_,rfl,this⟩
end Go.Q
