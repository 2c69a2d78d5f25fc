/-
  The range of x + x over [0, 1], and what stands on it. Conditions: each theorem's own.
-/
import Derived.Test.YtgmcchhklbeckaaGreatDoorK3550acPkG
import Derived.Test.YtgmcchhklbeckaaGreatDoorK2be57cPkQ
import Derived.Test.YtgmcchhklbeckaaGreatDoorKf2e869PkN
import Derived.Test.YtgmcchhklbeckaaGreatDoorKa16a35PkD
import Derived.Test.YtgmcchhklbeckaaGreatDoorK440114PkP
import Derived.Test.YtgmcchhklbeckaaGreatDoorK7c64e3PkL
import Derived.Test.YtgmcchhklbeckaaGreatDoorKf062ebPkI
import Derived.Test.YtgmcchhklbeckaaGreatDoorK8d17b0PkM
import Derived.Test.YtgmcchhklbeckaaGreatDoorK31829ePkK
import Derived.Test.YtgmcchhklbeckaaGreatDoorKb801f5PkO
import Derived.Test.YtgmcchhklbeckaaGreatDoorKe6f7caPkA
import Derived.Shelf.Abstract
import Derived.WalkKit
import Derived.OwnWalkIn
import Derived.TacticsInMore
import Derived.LoopNIn
import Derived.LoopIn
set_option linter.unusedVariables false
set_option linter.unusedSimpArgs false
open Nat renaming reduceBEq→ξ,reduceAdd→ζ,le_trans→χ,le_refl→η,mul_le_mul→qAk,mul_ne_zero→qBe,lt_or_ge→qBj
open Bool renaming and_eq_true→φ
open List renaming mem_cons_self→qAt,mem_singleton→qBc,all_eq_true→qBd
open Rat renaming div_def→qAx
namespace Go.Q
open Go.Proofs Go.RowKit
set_option maxRecDepth 100000
set_option maxHeartbeats 8000000
theorem out01:x01.fin (Out.prec 2 (.ok (x01.set.hull (2:Int).toNat)))=.ok (.i (some 0) (some 1)):=by
 have e:x01.set=.i (some 0) (some 1):=by kernel_rfl
 have b:x01.big=false:=by decide+kernel
 have e1:gdown 0 2=0:=by decide+kernel
 have e2:gup 1 2=1:=by decide+kernel
 have e3:decide (NS.le 2048 (NS.i (some 0) (some 1)))=true:=by decide
 unfold RI.fin Out.prec
 rw[b,e]
 simp[NS.hull,bad,Out.fin,e1,e2,e3]
theorem out02:RI.fin2 (NS.i (some 0) (some 1)).ri (NS.i (some 0) (some 1)).ri (rnd 2 (NS.i (some 0) (some 1)).ri.set (NS.i (some 0) (some 1)).ri.set (.ok ((NS.i (some 0) (some 1)).ri.set.sum (NS.i (some 0) (some 1)).ri.set)))=.ok (.i (some 0) (some 2)):=by
 have l1:(NS.i (some 0) (some 1)).le 2048:=by decide
 have o1:(NS.i (some 0) (some 1)).ok:=by unfold NS.ok ordO;decide
 rw[NS.ri_set o1]
 unfold RI.fin2 rnd Out.prec
 rw[NS.ri_big l1]
 have e1:gdown (0+0) 2=0:=by decide+kernel
 have e2:gup (1+1) 2=2:=by decide+kernel
 have e3:decide (NS.le 2048 (NS.i (some 0) (some 2)))=true:=by decide
 simp[NS.sum,oadd,NS.void,bad,NS.hull,Out.fin,e1,e2,e3]
theorem Leaf_x {h0 h:PH} [Le h0 h] {v:Value} (hv:Boxv h0 v l01):Spec mach 55 #[exXv,v,.int .i64 2] h (fun r h'=>Ir h' r (.ok (.i (some 0) (some 1)))) NP:=by
 have kF:=fun {h} [Le h0 h]=>BFind_spec (h:=h) (s:=⟨#[120]⟩) hv
 unfold Fnd at kF
 rw[l01_fnd] at kF
 obtain⟨_,_,_,rfl⟩:=hv.sa
 unfold exXv
 refine Spec.go [] Tryz.func55 rfl rfl (by kernel_rfl) fun C _=>?_
 try simp(disch:=omega) only[go_sem,ξ,ζ]
 refine caN (by exact kF) ?_;rintro v1 h1 s1 ⟨v2,x2,e2,rfl,q2⟩;obtain rfl:x2=(⟨#[120]⟩,x01):=(by cases e2;rfl);obtain⟨_,_,_,_,_,_,_,_,_,_,_,_,rfl,_,_⟩:=q2.sa
 try simp(disch:=omega) only[go_sem,ξ,ζ]
 have kR:=fun {h} [Le h1 h]=>du (h:=h) (p:=2) q2
 rw[out01] at kR
 refine caN (by exact kR) ?_;rintro r h2 s2 r2;obtain⟨u,rfl,c2⟩:=r2;obtain⟨_,_,_,_,_,_,_,_,_,_,_,_,_,_,_,_,rfl,c3⟩:=c2.sa
 try simp(disch:=omega) only[go_sem,ξ,ζ]
 exact⟨_,rfl,c3⟩
theorem Eval_x {h0 h:PH} [Le h0 h] {v:Value} (hv:Boxv h0 v l01):Spec mach 23 #[exXv,v,.int .i64 2] h (fun r h'=>Ir h' r (.ok (.i (some 0) (some 1)))) NP:=by
 have kL:=fun {h} [Le h0 h]=>Leaf_x (h:=h) hv
 obtain⟨_,_,_,rfl⟩:=hv.sa
 unfold exXv at kL ⊢
 refine Spec.go [] Tryz.func23 rfl rfl (by kernel_rfl) fun C _=>?_
 try simp(disch:=omega) only[go_sem,ξ,ζ]
 refine caN (by exact kL) ?_;rintro r h2 s2 r2;obtain⟨u,rfl,c2⟩:=r2;obtain⟨_,_,_,_,_,_,_,_,_,_,_,_,_,_,_,_,rfl,c3⟩:=c2.sa
 try simp(disch:=omega) only[go_sem,ξ,ζ]
 exact⟨_,rfl,c3⟩
theorem Kid_x {h0 h:PH} [Le h0 h] {v:Value} {b1 b2:Nat} (hv:Boxv h0 v l01) (hb1:h0 b1=some #[v]) (hb2:h0 b2=some #[.int .i64 2]):Spec mach 57 #[exXv,.pointer (some ⟨b1,0,none⟩),.pointer (some ⟨b2,0,none⟩)] h (fun r h'=>Ir h' r (.ok (.i (some 0) (some 1)))) NP:=by
 have kL:=fun {h} [Le h0 h]=>Eval_x (h:=h) hv
 have hb1:=(inferInstance:Le h0 h).sub _ _ hb1
 have hb2:=(inferInstance:Le h0 h).sub _ _ hb2
 obtain⟨_,_,_,rfl⟩:=hv.sa
 unfold exXv at kL ⊢
 refine Spec.go [] Tryz.func57 rfl rfl (by kernel_rfl) fun C _=>?_
 try simp(disch:=omega) only[go_sem,ξ,ζ]
 refine aE (aK hb1) ?_
 try simp(disch:=omega) only[go_sem,ξ,ζ]
 refine aE (aK hb2) ?_
 try simp(disch:=omega) only[go_sem,ξ,ζ]
 refine caN (by exact kL) ?_;rintro r h2 s2 r2;obtain⟨u,rfl,c2⟩:=r2;obtain⟨_,_,_,_,_,_,_,_,_,_,_,_,_,_,_,_,rfl,c3⟩:=c2.sa
 try simp(disch:=omega) only[go_sem,ξ,ζ]
 exact⟨_,rfl,c3⟩
def q01 (h:PH) (cs:List Value) (_:Unit):Prop:=Cv h (.agg cs.toArray) (.i (some 0) (some 1))
theorem Comb_a {h0 h:PH} [Le h0 h] {v:Value} {b b1 b2:Nat} (hb:kC b h0) (hv:Boxv h0 v l01) (hb1:h0 b1=some #[v]) (hb2:h0 b2=some #[.int .i64 2]):Spec mach 56 #[exAv b,.int .i64 2,.func (.func 57) #[] #[.pointer (some ⟨b1,0,none⟩),.pointer (some ⟨b2,0,none⟩)]] h (fun r h'=>Ir h' r (.ok (.i (some 0) (some 2)))) NP:=by
 have kK:=fun {h} [Le h0 h]=>Kid_x (h:=h) hv hb1 hb2
 unfold exAv exXv at*
 refine Spec.go [(10,.x),(22,.o [0,1,2,3,4,5,6,7,8,9,10,11])] Tryz.func56 rfl rfl (by kernel_rfl) fun C _=>?_
 try simp(disch:=omega) only[go_sem,ξ,ζ]
 refine lpSl [(10,.x),(22,.o [0,1,2,3,4,5,6,7,8,9,10,11])] (fun x:Option (Nat×Nat×List Value)=>match x with |none=>⟨[(1,.v (.int .i64 2)),(2,.v (.func (.func 57) #[] #[.pointer (some ⟨b1,0,none⟩),.pointer (some ⟨b2,0,none⟩)])),(3,.p 0 0),(6,.p 1 0),(7,.v (.int .i64 0)),(22,.v (.slice (some ⟨b,0,none⟩) 2 2)),(23,.v (.int .i64 (2:Nat))),(8,.v (.slice none 0 0)),(24,.v (.int .i64 0))],[[.int .i64 5,.int .i64 0,.bool false,.slice none 0 0,.slice none 0 0,.string ⟨#[]⟩,.slice (some ⟨b,0,none⟩) 2 2],[.bool false,.slice none 0 0,.slice none 0 0,.bool false,.slice none 0 0,.slice none 0 0,.bool false,.bool false]]⟩ |some x=>⟨[(1,.v (.int .i64 2)),(2,.v (.func (.func 57) #[] #[.pointer (some ⟨b1,0,none⟩),.pointer (some ⟨b2,0,none⟩)])),(3,.p 0 0),(6,.p 1 0),(7,.v (.int .i64 0)),(22,.v (.slice (some ⟨b,0,none⟩) 2 2)),(23,.v (.int .i64 (2:Nat))),(8,.s 2 0 x.1 x.2.1),(24,.v (.int .i64 x.1))],[[.int .i64 5,.int .i64 0,.bool false,.slice none 0 0,.slice none 0 0,.string ⟨#[]⟩,.slice (some ⟨b,0,none⟩) 2 2],[.bool false,.slice none 0 0,.slice none 0 0,.bool false,.slice none 0 0,.slice none 0 0,.bool false,.bool false],x.2.2]⟩) (fun x h'=>Le h0 h'∧match x with |none=>True |some x=>1≤x.1∧x.1≤2∧x.1≤x.2.1∧x.2.1*8=x.2.2.length∧RowOf 8 (q01 h') x.2.2 (List.replicate x.1 ())) (fun x=>match x with |none=>2 |some x=>2 - x.1) none [0,1] ?_ ⟨inferInstance,trivial⟩ (by kernel_rfl) ?_
 ·try simp(disch:=omega) only[go_sem,ξ,ζ]
  all_goals rfl
 rintro(_ |⟨i,cap,row⟩) h2 ⟨le2,hr⟩
 ·have hl:(0:Int) < ((2:Nat):Int):=by decide
  dsimp only
  try simp(disch:=omega) only[go_sem,ξ,ζ,hl,decide_true]
  refine Exists.intro [_,_,_,_,_,_,_] (And.intro rfl (And.intro (fun j v hj=>le2.sub.at (kC_at hb 0 (by decide) j v hj)) ?_))
  try simp(disch:=omega) only[go_sem,ξ,ζ]
  refine caN (by exact kK) ?_;rintro r h3 s3 r3;obtain⟨u,rfl,c3⟩:=r3;obtain⟨x1,x2,x3,x4,x5,x6,x7,x8,x9,x10,x11,x12,x13,x14,x15,x16,rfl,c3⟩:=c3.sa
  try simp(disch:=omega) only[go_sem,ξ,ζ]
  refine AWP_app (sz:=8) [.o 0,.o 1,.o 2] 3 [.o 4] rfl (by kernel_rfl) (by kernel_rfl) (by rfl) (by decide) rfl rfl ?_
  try simp(disch:=omega) only[go_sem,ξ,ζ,walk,appN,Nat.reduceMul]
  intro cap junk hc hj
  have hR:RowOf 8 (q01 h3) ([.bool x1,.slice x2 x3 x4,.slice x5 x6 x7,.bool x8,.slice x9 x10 x11,.slice x12 x13 x14,.bool x15,.bool x16] ++junk) (List.replicate 1 ()):=(RowOf.nil (sz:=8) (Q:=q01 h3) (row:=[])).app (cs:=[.bool x1,.slice x2 x3 x4,.slice x5 x6 x7,.bool x8,.slice x9 x10 x11,.slice x12 x13 x14,.bool x15,.bool x16]) (s:=()) rfl c3 junk
  dsimp only[lpS]
  refine⟨some (1,cap,[.bool x1,.slice x2 x3 x4,.slice x5 x6 x7,.bool x8,.slice x9 x10 x11,.slice x12 x13 x14,.bool x15,.bool x16] ++junk),[0,1,5],?_,⟨inferInstance,η 1,Nat.le_succ 1,hc,by simp;omega,hR⟩,η 2⟩
  try simp(disch:=omega) only[go_sem,ξ,ζ]
  all_goals rfl
 ·obtain⟨g1,g2,g3,g4,g5⟩:=hr
  dsimp only at g1 g2 g3 g4 g5 ⊢
  by_cases hl:(i:Int) < ((2:Nat):Int)
  ·obtain rfl:i=1:=by omega
   try simp(disch:=omega) only[go_sem,ξ,ζ,hl,decide_true]
   refine Exists.intro [_,_,_,_,_,_,_] (And.intro rfl (And.intro (fun j v hj=>le2.sub.at (kC_at hb 1 (by decide) j v hj)) ?_))
   try simp(disch:=omega) only[go_sem,ξ,ζ]
   refine caN (by exact kK) ?_;rintro r h3 s3 r3;obtain⟨u,rfl,c3⟩:=r3;obtain⟨x1,x2,x3,x4,x5,x6,x7,x8,x9,x10,x11,x12,x13,x14,x15,x16,rfl,c3⟩:=c3.sa
   try simp(disch:=omega) only[go_sem,ξ,ζ]
   refine AWP_app (sz:=8) [.o 0,.o 1,.o 2] 3 [.o 4] rfl (by kernel_rfl) (by kernel_rfl) (by rfl) (by decide) rfl rfl ?_
   try simp(disch:=omega) only[go_sem,ξ,ζ,walk,appN,Nat.reduceMul]
   intro cap' junk hc hj
   have hR:RowOf 8 (q01 h3) (row.take 8 ++[.bool x1,.slice x2 x3 x4,.slice x5 x6 x7,.bool x8,.slice x9 x10 x11,.slice x12 x13 x14,.bool x15,.bool x16] ++junk) (List.replicate 2 ()):=(g5.mono fun cs s (k:Cv h2 _ _)=>(k.to:Cv h3 _ _)).app (cs:=[.bool x1,.slice x2 x3 x4,.slice x5 x6 x7,.bool x8,.slice x9 x10 x11,.slice x12 x13 x14,.bool x15,.bool x16]) (s:=()) rfl c3 junk
   dsimp only[lpS]
   refine⟨some (2,cap',row.take 8 ++[.bool x1,.slice x2 x3 x4,.slice x5 x6 x7,.bool x8,.slice x9 x10 x11,.slice x12 x13 x14,.bool x15,.bool x16] ++junk),[0,1,6],?_,⟨inferInstance,Nat.le_succ 1,η 2,hc,by simp;omega,hR⟩,η 1⟩
   try simp(disch:=omega) only[go_sem,ξ,ζ]
   all_goals rfl
  ·obtain rfl:i=2:=by omega
   try simp(disch:=omega) only[go_sem,ξ,ζ,hl,decide_false]
   have c1:Cv h2 (.agg (List.take 8 (List.drop (0*8) row)).toArray) (.i (some 0) (some 1)):=g5.2 0 () rfl
   have c2:Cv h2 (.agg (List.take 8 (List.drop (Int.toNat 1*8) row)).toArray) (.i (some 0) (some 1)):=g5.2 1 () rfl
   have kA:=fun {h} [Le h2 h]=>jf (h:=h) (p:=2) (c1.iv (by decide)) (c2.iv (by decide))
   rw[out02] at kA
   refine caN (by exact kA) ?_;rintro r h3 s3 r3;obtain⟨u,rfl,c3⟩:=r3;obtain⟨_,_,_,_,_,_,_,_,_,_,_,_,_,_,_,_,rfl,c3⟩:=c3.sa
   try simp(disch:=omega) only[go_sem,ξ,ζ]
   exact⟨_,rfl,c3⟩
theorem Eval_a {h0 h:PH} [Le h0 h] {v:Value} {b:Nat} (hb:kC b h0) (hv:Boxv h0 v l01):Spec mach 23 #[exAv b,v,.int .i64 2] h (fun r h'=>Ir h' r (.ok (.i (some 0) (some 2)))) NP:=by
 have hv0:=hv
 obtain⟨_,_,_,rfl⟩:=hv.sa
 have hb0:=hb
 unfold exAv
 refine Spec.go [(3,.t (.s [0,1] (.p 1 (.p 2 (.s [2,3,4,5,6,7] .d)))))] Tryz.func23 rfl rfl (by kernel_rfl) fun C _=>?_
 try simp(disch:=omega) only[go_sem,ξ,ζ]
 intro b1 h1 st1 hb1
 try simp(disch:=omega) only[go_sem,ξ,ζ]
 intro b2 h2 st2 hb2
 try simp(disch:=omega) only[go_sem,ξ,ζ]
 have hb1:=st2.sub _ _ (hb1 (by simp))
 have hb2:=hb2 (by simp)
 have kC2:=fun {h} [Le h2 h]=>Comb_a (h:=h) ((inferInstance:Le h0 h2).sub _ _ hb0) (hv0.to (h':=h2)) hb1 hb2
 unfold exAv at kC2
 refine caN (by exact kC2) ?_;rintro r h3 s3 r3;obtain⟨u,rfl,c3⟩:=r3;obtain⟨_,_,_,_,_,_,_,_,_,_,_,_,_,_,_,_,rfl,c3⟩:=c3.sa
 try simp(disch:=omega) only[go_sem,ξ,ζ]
 exact⟨_,rfl,c3⟩
theorem Range_a {h0 h:PH} [Le h0 h] {v:Value} {b:Nat} (hb:kC b h0) (hv:Boxv h0 v l01):Spec mach 11 #[exAv b,v,.int .i64 2] h (fun r h'=>Ir h' r (.ok (.i (some 0) (some 2)))) NP:=by
 have kR:=fun {h} [Le h0 h]=>Ready_spec (h:=h) hb hv
 have kE:=fun {h} [Le h0 h]=>Eval_a (h:=h) hb hv
 obtain⟨_,_,_,rfl⟩:=hv.sa
 unfold exAv at*
 refine Spec.go [] Tryz.func11 rfl rfl (by kernel_rfl) fun C _=>?_
 try simp(disch:=omega) only[go_sem,ξ,ζ]
 refine caN (by exact kR) ?_;rintro v1 h1 s1 rfl
 try simp(disch:=omega) only[go_sem,ξ,ζ]
 refine caN (by exact kE) ?_;rintro r h3 s3 r3;obtain⟨u,rfl,c3⟩:=r3;obtain⟨_,_,_,_,_,_,_,_,_,_,_,_,_,_,_,_,rfl,c3⟩:=c3.sa
 try simp(disch:=omega) only[go_sem,ξ,ζ]
 exact⟨_,rfl,c3⟩
theorem awake05_spec {h:PH}:Spec mach 10 #[] h (fun r _=>r=.bool true) NP:=by
 refine Spec.go [(3,.t (.p 1 (.s [0,1,2] (.p 2 (.s [3,4,5,6,7,8,9,10,11] .d)))))] Tryz.func10 rfl rfl (by kernel_rfl) fun C _=>?_
 try simp(disch:=omega) only[go_sem,ξ,ζ]
 refine caN (by exact aF (n:=1) (by decide) (by decide)) ?_;rintro _ h1 _ f1;obtain⟨_,_,_,_,_,_,_,rfl,f1⟩:=f1.sa
 try simp(disch:=omega) only[go_sem,ξ,ζ]
 refine caN (by exact cA f1 (by decide)) ?_;rintro _ h2 _ f2;obtain⟨v2_0,v2_1,v2_2,v2_3,v2_4,v2_5,v2_6,rfl,f2⟩:=f2.sa
 try simp(disch:=omega) only[go_sem,ξ,ζ,Nat.reduceMul]
 intro bs h3 st3 hbs
 try simp(disch:=omega) only[go_sem,ξ,ζ]
 have hbs:=hbs (by simp)
 intro bk h4 st4 hbk
 try simp(disch:=omega) only[go_sem,ξ,ζ]
 have hbk:kC bk h4:=hbk (by simp)
 have hat:∀j v,([.string ⟨#[120]⟩,.bool false,.slice none 0 0,.slice none 0 0,.bool v2_0,.slice v2_1 v2_2 v2_3,.slice v2_4 v2_5 v2_6,.bool false,.bool false]:List Value)[j]?=some v→h4.at (((⟨bs,0,none⟩:Addr).add 0).add j)=some v:=fun j v hj=>by
  refine st4.sub.at ?_
  rw[at_off hbs,Nat.zero_add]
  simpa using hj
 have hv:Boxv h4 (.slice (some ⟨bs,0,none⟩) 1 1) l01:=⟨_,_,rfl,by decide,fun i s hi=>by
  have hi1:i < 1:=(List.getElem?_eq_some_iff.1 hi).1
  obtain rfl:i=0:=by omega
  cases hi
  refine⟨_,_,_,_,_,_,_,_,_,_,_,_,_,_,_,_,_,rfl,hat,?_⟩
  have c1:Cv h4 (.agg #[.bool false,.slice none 0 0,.slice none 0 0,.bool v2_0,.slice v2_1 v2_2 v2_3,.slice v2_4 v2_5 v2_6,.bool false,.bool false]) (.i (some 0) (some 1)):=⟨_,_,_,_,_,_,rfl,Cn.zero h4,by simpa using f2.to (h':=h4)⟩
  exact c1.iv (by decide)⟩
 have kR:=fun {h} [Le h4 h]=>Range_a (h:=h) hbk hv
 have kV:=fun {h} [Le h4 h]=>BValid_spec (h:=h) hv
 rw[l01_ok] at kV
 unfold exAv at kR
 refine caN (by exact kR) ?_;rintro r h5 s5 r5;obtain⟨u,rfl,c5⟩:=r5;obtain⟨d1,w1,w2,w3,w4,w5,w6,d2,w7,w8,w9,w10,w11,w12,rfl,p1,p2⟩:=c5.fl
 try simp(disch:=omega) only[go_sem,ξ,ζ]
 have p1:Cn h5 _ 0:=p1
 have p2:Cn h5 _ 2:=p2
 obtain⟨sn,sd,e1,n1,n2⟩:=p1
 obtain⟨sn',sd',e2,n3,n4⟩:=p2
 simp only[Value.agg.injEq,Array.mk.injEq,List.cons.injEq,and_true] at e1 e2
 obtain⟨_,rfl,rfl⟩:=e1
 obtain⟨_,rfl,rfl⟩:=e2
 have:=E4 (by simpa using n1)
 subst this
 obtain⟨rfl,ad',rfl,t2⟩:=zC (n:=2) n3 (by decide) (by decide)
 have:=E4 (by simpa using n4)
 subst this
 try simp(disch:=omega) only[go_sem,ξ,ζ]
 refine aE t2 ?_
 try simp(disch:=omega) only[go_sem,ξ,ζ]
 refine caN (by exact kV) ?_;rintro v6 h6 s6 rfl
 try simp(disch:=omega) only[go_sem,ξ,ζ]
 all_goals rfl
end Go.Q
namespace Go.Q
set_option maxHeartbeats 4000000





open Go.Proofs
set_option maxRecDepth 100000
set_option maxHeartbeats 8000000


@[go_sem] theorem void_at_e:NS.void .e=true:=rfl
@[go_sem] theorem void_at_i (a b:Option Rat):NS.void (.i a b)=false:=rfl

@[go_sem] theorem void_at_e':NS.void .e=true:=rfl
@[go_sem] theorem void_at_i' (a b:Option Rat):NS.void (.i a b)=false:=rfl
def isoO (o o':Out):Prop:=∀L,o'=.ok L→∃S,o=.ok S∧S.within L=true
theorem AW (z:NS):Out.fin (.ok z)=.ok z∨Out.fin (.ok z)=.error 1:=by
 unfold Out.fin
 by_cases h:z.le 2048
 ·exact .inl (by simp only[h,decide_true,cond_true])
 ·exact .inr (by simp only[h,decide_false,cond_false])
theorem isoO.fin {o o':Out} (h:isoO o o') {L:NS} (hL:o'.fin=.ok L):o.fin=.error 1∨∃S,o.fin=.ok S∧S.within L=true:=by
 cases o' with
 |error e=>cases hL
 | ok z=>
  rcases AW z with e |e<;>rw[e] at hL<;>cases hL
  obtain⟨S,rfl,hS⟩:=h _ rfl
  rcases AW S with e |e
  ·exact .inr ⟨S,e,hS⟩
  ·exact .inl e
theorem x8 {x y:NS} (h:x.within y=true):isoO (.ok x) (.ok y):=fun L e=>by cases e;exact⟨x,rfl,h⟩



theorem x9 {x y:NS} {u v:Rat} (hu:x.has u=true) (hv:y.has v=true):(x.lesser y).has (min u v)=true:=by
 cases x with
 |e=>cases hu
 | i a b =>
  cases y with
  |e=>cases hv
  | i c d=>
   rw[NS.has_i] at hu hv
   show(NS.i (jmin a c) (omin b d)).has (min u v)=true
   rw[NS.has_i]
   refine⟨fun z e=>?_,fun z e=>?_⟩
   ·cases a with
    |none=>cases e
    | some a=>cases c with
     |none=>cases e
     |some c=>cases e;have:=hu.1 a rfl;have:=hv.1 c rfl;grind
   ·cases b with
    | none=>cases d with
     |none=>cases e
     |some d=>cases e;have:=hv.2 z rfl;grind
    | some b=>cases d with
     |none=>cases e;have:=hu.2 z rfl;grind
     |some d=>cases e;have:=hu.2 b rfl;have:=hv.2 d rfl;grind



end Go.Q
namespace Go.Q
open Go.Proofs Go.RowKit
attribute [local go_sem] Oper.semAt_some
set_option maxRecDepth 100000
set_option maxHeartbeats 16000000
end Go.Q
namespace Go.Q
open Go.Proofs Go.RowKit
attribute [local go_sem] Oper.semAt_some
set_option maxRecDepth 100000
set_option maxHeartbeats 16000000
section
variable {w:World} {h:PH} {n:Nat} {T E:TypeId} {M:Nat→Nat→RI} {i:Nat} {W:World} {hp:PH} {g cp:Nat→Nat} {v:Value}
end
open Go.Proofs
abbrev RQ:=Bool×Nat×Nat
def Rats (h:PH) (v:Value) (l:List RQ):Prop:=∃a c,v=.slice a l.length c∧l.length≤2^30∧∀j x,l[j]?=some x→∃ad a1 m1 c1 a2 m2 c2,a=some ad∧
 (∀(t:Nat) u,([.bool x.1,.slice a1 m1 c1,.slice a2 m2 c2]:List Value)[t]?=some u→h.at ((ad.add (j*3)).add t)=some u)∧Rw h (.agg #[.bool x.1,.slice a1 m1 c1,.slice a2 m2 c2]) x.1 x.2.1 x.2.2
theorem Rats.at_ {h:PH} {a:Option Addr} {m c:Nat} {l:List RQ} (r:Rats h (.slice a m c) l):m=l.length∧∀j x,l[j]?=some x→∃ad a1 m1 c1 a2 m2 c2,a=some ad∧
  (∀(t:Nat) u,([.bool x.1,.slice a1 m1 c1,.slice a2 m2 c2]:List Value)[t]?=some u→h.at ((ad.add (j*3)).add t)=some u)∧Rw h (.agg #[.bool x.1,.slice a1 m1 c1,.slice a2 m2 c2]) x.1 x.2.1 x.2.2:=by
 obtain⟨_,_,e,_,k⟩:=r
 simp only[Value.slice.injEq] at e
 obtain⟨rfl,rfl,rfl⟩:=e
 exact⟨rfl,k⟩
open Go.Proofs Go.Proofs.YtgmcchhklbeckaaGreatDoor
open Go.ChangeShapes Go.WideShapes Go.ChangeAt Go.RowKit
theorem unRs:Tryz.prog.underlying 45=some (.slice 24):=by kernel_rfl
theorem ceRs:Tryz.prog.cellsOf 45=1:=by kernel_rfl
section
variable {H:Type} {enc:TypeId×Value→H} {W:World} {sp:Nat→Bool} {held:Bool}
theorem open_rats {fuel:Nat} {v:Value} {x:DataW H×List MemPlace} (h:DataW.trod enc Tryz.prog W 0 sp held fuel 45 [v]=some x) {B:Nat} (hB:B≤1048576) (hk:Rows.uptoBulk x.1≤B):
  ∃(l:List RQ),Rats (pub W) v l:=by
 rcases DataW.trod_slice unRs h with⟨e,_⟩ |⟨a,len,cap,elems,rest,n,_,e,rfl,_,hl,hm,hlen,hel,_,_⟩
 ·cases e
  exact⟨[],none,0,rfl,by simp,fun j s h=>by simp at h⟩
 cases e
 simp only[Rows.uptoBulk] at hk
 have b1:=bulk_len (H:=H) (elems.map (·.1))
 rw[List.length_map,hlen] at b1
 obtain⟨l,hll,hP⟩:=list_of (fun j (s:RQ)=>∃(a1:Option Addr) (m1 c1:Nat) (a2:Option Addr) (m2 c2:Nat),(∀(t:Nat) u,([.bool s.1,.slice a1 m1 c1,.slice a2 m2 c2]:List Value)[t]?=some u→(pub W).at ((a.add (j*3)).add t)=some u)∧Rw (pub W) (.agg #[.bool s.1,.slice a1 m1 c1,.slice a2 m2 c2]) s.1 s.2.1 s.2.2) len fun i hi=>by
  have he:=hel i hi
  obtain⟨y,hy⟩:∃y,elems[i]?=some y:=⟨_,List.getElem?_eq_getElem (by omega)⟩
  rw[hy,Option.bind_eq_some_iff,ce24] at he
  obtain⟨cs,hc,ht⟩:=he
  have hb:=bulk_mem (d:=y.1) (l:=elems.map (·.1)) (List.mem_map.2 ⟨y,List.mem_of_getElem? hy,rfl⟩)
  obtain⟨neg,nn,dd,hr,_⟩:=open_rat ht hB (by omega)
  have hc':=World.cells?_some hc
  have hr0:=hr
  obtain⟨a1,c1,xs,a2,c2,ys,e,_⟩:=hr
  have e:cs=_:=congrArg Array.toList (Value.agg.inj e)
  subst e
  refine⟨(neg,nn,dd),a1,xs.length,c1,a2,ys.length,c2,fun t u hu=>?_,hr0⟩
  have:t < 3:=(List.getElem?_eq_some_iff.1 hu).1
  rw[pub_at,hc'.2.2 t this]
  exact hu
 refine⟨l,some a,cap,by rw[hll],by omega,fun j y hj=>?_⟩
 obtain⟨a1,m1,c1,a2,m2,c2,k1,k2⟩:=hP j y hj
 exact⟨a,a1,m1,c1,a2,m2,c2,rfl,k1,k2⟩
end
end Go.Q
namespace Go.Q
open Go.Proofs
open Go.RowKit (Below)
set_option maxRecDepth 100000
set_option maxHeartbeats 4000000
theorem idle_Ra (p q:Value) (w:World):CallsD mach.P 253 #[p,q] .returning w fun e u' w'=>e=.returned (.tuple #[])∧u'=.returning∧w'=w:=by
 refine callsD_of_wpS Tryz.func253 rfl fun c₀ cs hu=>?_
 apply wpS_seq
 apply wpS_region
 simp[wpOpsS,go_sem,recoverD,hu,Exit.thenS]
 have hnil:∀w:World,(binOp BinOp.eql 20 .nilIface .nilIface).run mach.P w=.ok (.bool true) w:=fun _=>by kernel_rfl
 refine wpS_of_wp (wp_block (wp_seq_k fun K hK=>?_))
 apply wp_region
 simp[wpOps,go_sem,hnil,Oper.upon,Exit.then]
 refine .inl (hK _ _ ?_)
 clear hK K
 refine wp_cond_true ?_ ?_
 ·simp[Act.eval]
 apply wp_region
 simp[wpOps,go_sem]
 cases c₀
 simp_all [bodyPostS,results,Tryz.results253,Exit.inBlock]
theorem I4 {C:Ctx} {h:PH} {β:Nat→Nat} {w:World} {rv re:List Value} {e:Int} (hf:Fine mach C h w) (hr:Rows C h w β [rv,re]) (h8:rv.length=3) (h1:re.length=1):
    CallsD mach.P 253 #[.pointer (some ⟨β 0,0,none⟩),.pointer (some ⟨β 1,0,none⟩)] (.panicking [{v:=.iface 133 (.agg #[.int .i64 e]),recovered:=false}]) w fun en u' w'=>
      en=.returned (.tuple #[])∧u'=.panicking [{v:=.iface 133 (.agg #[.int .i64 e]),recovered:=true}]∧
      Fine mach C h w'∧Rows C h w' β [[.bool false,.slice none 0 0,.slice none 0 0],[.int .i64 e]]:=by
  have hnil:∀w:World,(binOp BinOp.eql 20 (.iface 133 (.agg #[.int .i64 e])) .nilIface).run mach.P w=.ok (.bool false) w:=fun _=>by kernel_rfl
  have has:∀w:World,(Instr.typeAssert (.iface 133 (.agg #[.int .i64 e])) 20 133 true).run mach.P w=.ok (.tuple #[.agg #[.int .i64 e],.bool true]) w:=fun _=>by kernel_rfl
  refine callsD_of_wpS Tryz.func253 rfl fun c₀ cs hu=>?_
  apply wpS_seq
  apply wpS_region
  simp[wpOpsS,go_sem,recoverD,hu,Exit.thenS]
  refine wpS_of_wp (wp_block (wp_seq_k fun K hK=>?_))
  apply wp_region
  simp[wpOps,go_sem,hnil,Oper.upon,Exit.then]
  refine .inl (hK _ _ ?_)
  clear hK K
  refine wp_cond_false ?_ ?_
  · simp[Act.eval]
  refine wp_seq_k fun K hK=>?_
  apply wp_region
  simp[wpOps,go_sem,has,Oper.upon,Exit.then]
  repeat refine Or.inl ?_
  refine hK _ _ ?_
  clear hK K
  refine wp_cond_true ?_ ?_
  · simp[Act.eval]
  match rv,re,h8,h1 with
  |[r0,r1,r2],[q0],_,_=>
  refine wp_mono (nh (M:=mach) (n:=15) (C:=⟨C.w0,C.h0,[β 0,β 1],[]⟩) (S:=⟨[(0,.p 0 0),(1,.p 1 0),(11,.v (.agg #[.int .i64 e]))],[[r0,r1,r2],[q0]]⟩) (h:=h) (β:=β) (E:=NP)
    (Q:=fun en S h'=>en=.normal∧h'=h∧2≤S.bx.length∧S.box 0=[.bool false,.slice none 0 0,.slice none 0 0]∧S.box 1=[.int .i64 e]) ?_ ?_) ?_
  · refine⟨by simp,rfl,hf.re rfl rfl,fun i cs hi hc=>(hr.at_ i cs hi hc).re rfl,hr.inj,fun t=>?_,fun t i hi=>?_,by simp,fun i hi=>?_⟩
    · simp only[lk]
      by_cases h0:t=0
      · subst h0;exact .inr rfl
      · by_cases h1:t=1
        · subst h1;exact .inr rfl
        · by_cases h2:t=11
          · subst h2;exact .inr rfl
          · refine .inl ?_
            have e0:(0 == t)=false:=by simp;omega
            have e1:(1 == t)=false:=by simp;omega
            have e2:(11 == t)=false:=by simp;omega
            simp[e0,e1,e2]
    · simp only[lk] at hi
      by_cases h0:t=0
      · subst h0;simp[AV.ix] at hi;subst hi;simp
      · by_cases h1:t=1
        · subst h1;simp[AV.ix] at hi;subst hi;simp
        · have e0:(0 == t)=false:=by simp;omega
          have e1:(1 == t)=false:=by simp;omega
          rw[e0,e1] at hi
          cases hx:(11 == t)<;>rw[hx] at hi<;>cases hi
    · simp only[List.length_cons,List.length_nil] at hi
      match i,hi with
      |0,_=>rfl
      |1,_=>rfl
  · repeat (first |(refine rg rfl rfl (fun K hK=>?_);(repeat (first |(refine wo rfl (fun k hk=>?_);simp(disch:=omega) only[go_sem,ξ,ζ];apply hk;clear hk k) |refine wkt rfl ?_));(try refine wk0 ?_);apply hK;clear hK K;(try dsimp only[ag,qs,qb])) |((first |refine ae ?_ |refine ac ?_);simp(disch:=decide) only[qs,qb,if_true,if_false,reduceIte]) |refine ah rfl (fun K hK=>?_) |refine ct rfl ?_ |((first |refine hK _ _ ?_ |(clear hK;refine hK _ _ ?_) |(clear hK;clear hK;refine hK _ _ ?_));clear hK;(try clear K)))
    refine pD (.alt 0 (.alt 1 (.alt 2 (.alt 3 (.alt 4 .done .no) .no) (.alt 3 (.alt 2 (.alt 4 .done .no) .no) .no)) (.alt 3 (.alt 1 (.alt 2 (.alt 4 .done .no) .no) .no) .no)) (.alt 1 (.alt 0 (.alt 2 (.alt 3 (.alt 4 .done .no) .no) (.alt 3 (.alt 2 (.alt 4 .done .no) .no) .no)) (.alt 2 (.alt 0 (.alt 3 (.alt 4 .done .no) .no) .no) .no)) .no)) (by decide+kernel) rfl (fun K hK=>?_)
    have fin:∀S h',h'=h→S.box 0=[.bool false,.slice none 0 0,.slice none 0 0]→S.box 1=[.int .i64 e]→2≤S.bx.length→K S h':=fun S h' e0 e1 e2 e3=>hK _ _ ⟨rfl,e0,e3,e1,e2⟩
    clear hK
    repeat' (first |exact wt_no |exact ak (fin _ _ rfl rfl rfl (by simp)) |refine aj ?_ ?_ |(refine wk (fun k hk=>?_);simp(disch:=omega) only[go_sem,ξ,ζ];apply hk;clear hk k;with_reducible refine wk0 ?_))
  · intro en a' w' hq
    cases en with
    | normal=>
      obtain⟨S',h',β',g',_,rfl,hl,hb0,hb1⟩:=hq
      have e0:β' 0=β 0:=g'.pin.2 0 (by simp)
      have e1:β' 1=β 1:=g'.pin.2 1 (by simp)
      have x0:=g'.boxes 0 _ (box_get hl) (by rw[hb0];simp)
      have x1:=g'.boxes 1 _ (box_get hl) (by rw[hb1];simp)
      have ne:=g'.inj 0 1 _ _ (box_get hl) (box_get hl) (by rw[hb0];simp) (by rw[hb1];simp)
      rw[e0,hb0] at x0
      rw[e1,hb1] at x1
      rw[e0,e1] at ne
      cases c₀
      simp only[Exit.inBlock,bodyPostS]
      refine⟨g'.defers,_,rfl,_,results_none rfl _ _ _,rfl,rfl,g'.fine.re rfl rfl,tL (x0.re rfl) (x1.re rfl) (fun e=>by simpa using ne e)⟩
    |panic ch=>obtain⟨_,_,_,hq⟩:=hq;exact(hq:False).elim
    |outgrown=>exact(hq:False).elim
    |_=>obtain⟨_,_,_,_,hq,_⟩:=hq;cases hq
def offRa (β:Nat→Nat):Deferred:={target:=.fn (.func 253) #[.pointer (some ⟨β 0,0,none⟩),.pointer (some ⟨β 1,0,none⟩)],args:=#[]}
theorem try_Ra {h : PH} {f:FuncId} {cap:Array Value} {w:World} (hw:Has w h) (hg:Sub mach.gl h) (hc:dS mach.P f=true) {Y:Ending→World→Prop}
  (hk :∀(w1:World),Has w1 h→Calls mach.P f cap w1 fun e w2=>∃h3,Below w1.heap.size w1 w2∧Has w2 h3∧Sub h h3∧New w1.heap.size h h3∧match e with
    |.returned v=>(∃r0 r1 r2,v=.agg #[r0,r1,r2]∧[r0,r1,r2].all Value.oneCell'=true)∧∀w3,Fine mach ⟨w,h,[],[]⟩ h3 w3→Y (.returned (.tuple #[v,.int .i64 0])) w3
    |.panicked ch=>∃e,ch=[{v:=.iface 133 (.agg #[.int .i64 e]),recovered:=false}]∧∀w3,Fine mach ⟨w,h,[],[]⟩ h3 w3→Y (.returned (.tuple #[.agg #[.bool false,.slice none 0 0,.slice none 0 0],.int .i64 e])) w3
    |.outgrown=>False):Calls mach.P 201 #[.func (.func f) #[] cap] w Y:=by
 refine calls_of_wp_defers Tryz.func201 rfl ?_
 refine wp_seq (wp_mono (nh (E:=NP) (Q:=fun e S h'=>e=.normal∧h'=h∧S=⟨[(3,.p 1 0),(2,.p 0 0),(0,.v (.func (.func f) #[] cap))],[[.bool false,.slice none 0 0,.slice none 0 0],[.int .i64 0]]⟩) (G.start (M:=mach) (n:=7) (args:=[(.func (.func f) #[] cap)]) [] rfl (by simp) hw hg) ?_) ?_)
 ·refine AWP_s rfl ?_
  (repeat (first |(refine wo rfl (fun k hk=>?_);simp(disch:=omega) only[go_sem,ξ,ζ];apply hk;clear hk k) |refine wkt rfl ?_));(try refine wk0 ?_)
  exact⟨rfl,rfl,rfl⟩
 ·intro en a w1 hq
  cases en with
  | normal=>
   obtain⟨S',h',β,g,_,rfl,rfl⟩:=hq
   refine wp_seq (eK ?_)
   show RWc _ _ _ [0,1] _ _
   refine RWc_r (.func (.func 253) #[] #[.pointer (some ⟨β 0,0,none⟩),.pointer (some ⟨β 1,0,none⟩)]) rfl rfl rfl (fun w' hb=>?_) ?_
   ·simp[execOp,Instr.makeFunc,(g.below hb).ev_p (x:=.tmp 2) rfl,(g.below hb).ev_p (x:=.tmp 3) rfl]
   ·have g4 :=g.put (d:=some 4) (fun k hk=>by cases hk;decide) (x:=.top) (v:=(.func (.func 253) #[] #[.pointer (some ⟨β 0,0,none⟩),.pointer (some ⟨β 1,0,none⟩)])) (.inl rfl) (fun i hi=>by cases hi)
    have e4:(a.put (some 4) (.func (.func 253) #[] #[.pointer (some ⟨β 0,0,none⟩),.pointer (some ⟨β 1,0,none⟩)])).eval (.tmp 4)=(.func (.func 253) #[] #[.pointer (some ⟨β 0,0,none⟩),.pointer (some ⟨β 1,0,none⟩)]):=by
     have:=g.size
     simp[Act.eval,Act.put,this]
    refine RWc_i rfl (by decide) rfl (B9 (offRa β) ?_ ⟨.inr (Below.refl _ _),?_⟩)
    ·simp[execOp,offRa,resolve,Deferred.ofValue,e4]
    ·refine sM (a':={a.put (some 4) (.func (.func 253) #[] #[.pointer (some ⟨β 0,0,none⟩),.pointer (some ⟨β 1,0,none⟩)]) with defers:=[offRa β]}) ?_ ?_
     ·simp[Act.put,show a.defers=[] from g.defers]
     ·have g5 :=g4.re (C':=⟨w,h',[β 0,β 1],[offRa β]⟩) rfl rfl [offRa β] rfl ⟨by simp[AS.put],fun i hi=>by
       match i,hi with
       |0,_=>rfl
       |1,_=>rfl⟩
      generalize({a.put (some 4) (.func (.func 253) #[] #[.pointer (some ⟨β 0,0,none⟩),.pointer (some ⟨β 1,0,none⟩)]) with defers:=[offRa β]}:Act)=a5 at g5 ⊢
      clear e4 g4 g
      simp only[AS.put,st,ξ,cond_false] at g5
      refine wp_seq (eK ?_)
      show RWc _ _ _ [0,1,2,3] _ _
      refine RWc_r (.func (.func f) #[] cap) rfl rfl rfl (fun w' hb=>?_) ?_
      ·simp[execOp,(g5.below hb).ev_v (x:=.tmp 0) rfl]
      ·have g6:=g5.put (d:=some 5) (fun k hk=>by cases hk;decide) (x:=.v (.func (.func f) #[] cap)) (v:=(.func (.func f) #[] cap)) (.inr rfl) (fun i hi=>by cases hi)
       refine RWc_i rfl (by decide) rfl (tZ (f:=f) (args:=cap) ?_ ?_)
       ·exact BH g6 (t:=5) rfl rfl hc
       ·refine(hk w1 g6.fine.has).mono fun en w2 hp=>?_
        obtain⟨h3,hb,hh,hs,hn,hp⟩:=hp
        cases en with
        |outgrown=>exact hp
        | returned v=>
         obtain⟨⟨r0,r1,r2,rfl,hone⟩,hY⟩:=hp
         refine⟨.inr hb,?_⟩
         have g7:=(g6.grow hb hh hs hn).put (d:=some 6) (fun k hk=>by cases hk;decide) (x:=.v (.agg #[r0,r1,r2])) (v:=.agg #[r0,r1,r2]) (.inr rfl) (fun i hi=>by cases hi)
         refine uo (Q:=LQ mach 7 ⟨w,h',[β 0,β 1],[offRa β]⟩ (fun e S h''=>e=.normal∧h''=h3∧2≤S.bx.length∧lk S.sl 2=.p 0 0∧lk S.sl 3=.p 1 0∧S.box 0=[r0,r1,r2]∧S.box 1=[.int .i64 0]) NP) ?_ ?_ ?_ [2,3] _ _ (fx [.o 2,.o 3] _ _ _ _ _ _ rfl ?_ g7)
         ·rintro a8 w3 ⟨S8,h8,β8,g8,_,rfl,hl,l2,l3,b0,b1⟩
          refine wp_ret ?_
          show Leaves mach.P _ a8.tmps Y a8.defers .returning w3
          rw[show a8.defers=[offRa β] from g8.defers]
          refine leaves_cons (f:=253) (args:=#[.pointer (some ⟨β 0,0,none⟩),.pointer (some ⟨β 1,0,none⟩)]) (by simp) (by simp[go_sem];exact iF (by kernel_rfl) _ _) ?_
          refine(idle_Ra _ _ _).mono ?_
          rintro e u' w'' ⟨rfl,rfl,rfl⟩
          simp only[settle,Leaves]
          refine⟨_,i9 g8 (v:=.tuple #[.agg #[r0,r1,r2],.int .i64 0]) ?_,hY _ (g8.fine.re rfl rfl)⟩
          show resA mach.P S8 [.cell 2 24,.cell 3 36]=_
          have b0':S8.bx.getD 0 []=_:=b0
          have b1':S8.bx.getD 1 []=_:=b1
          simp only[resA,resL,res1,l2,l3,ldb,b0',b1',go_sem]
          all_goals rfl
         ·rintro ch a w ⟨_,_,_,hq⟩;exact(hq:False).elim
         ·intro a w hq;exact(hq:False).elim
         ·simp only[AS.put,st,ξ,cond_false]
          refine wk (fun k hk=>?_)
          simp(disch:=omega) only[go_sem,ξ,ζ]
          (first |refine⟨by simpa[Value.oneCell'] using hone,hk _ _ ?_⟩ |refine hk _ _ ?_)
          clear hk k
          (repeat (first |(refine wo rfl (fun k hk=>?_);simp(disch:=omega) only[go_sem,ξ,ζ];apply hk;clear hk k) |refine wkt rfl ?_));(try refine wk0 ?_)
          exact⟨trivial,rfl,by simp,rfl,rfl,rfl,rfl⟩
        | panicked ch=>
         obtain⟨e,rfl,hY⟩:=hp
         have g7:=g6.grow hb hh hs hn
         show Leaves mach.P _ (a5.put (some 5) (.func (.func f) #[] cap)).tmps Y (a5.put (some 5) (.func (.func f) #[] cap)).defers (.panicking _) w2
         rw[show(a5.put (some 5) (.func (.func f) #[] cap)).defers=[offRa β] from g7.defers]
         refine leaves_cons (f:=253) (args:=#[.pointer (some ⟨β 0,0,none⟩),.pointer (some ⟨β 1,0,none⟩)]) (by simp) (by simp[go_sem];exact iF (by kernel_rfl) _ _) ?_
         refine(I4 g7.fine ⟨g7.boxes,g7.inj⟩ rfl rfl).mono ?_
         rintro en u' w'' ⟨rfl,rfl,hf,hr⟩
         simp only[settle,Leaves,List.dropWhile_nil]
         have g9:G mach ⟨w,h',[β 0,β 1],[offRa β]⟩ 7 ⟨_,[[.bool false,.slice none 0 0,.slice none 0 0],[.int .i64 e]]⟩ h3 β (a5.put (some 5) (.func (.func f) #[] cap)) w'':=⟨g7.size,g7.defers,hf,hr.at_,hr.inj,g7.slots,g7.wf,g7.pin⟩
         refine⟨_,i9 g9 (v:=.tuple #[.agg #[.bool false,.slice none 0 0,.slice none 0 0],.int .i64 e]) ?_,hY _ (hf.re rfl rfl)⟩
         show resA mach.P _ [.cell 2 24,.cell 3 36]=_
         simp only[resA,resL,res1,ldb,go_sem]
         all_goals rfl
  |panic ch=>obtain⟨_,_,_,hq⟩:=hq;exact(hq:False).elim
  |outgrown=>exact(hq:False).elim
  |_=>obtain⟨_,_,_,_,hq,_⟩:=hq;cases hq
theorem tryRa_ok {h:PH} {f:FuncId} {cap:Array Value} {R R':Value→PH→Prop} (s:Spec mach f cap h R NP) (hR:∀v h',Sub h h'→R v h'→(∃r0 r1 r2,v=.agg #[r0,r1,r2]∧[r0,r1,r2].all Value.oneCell'=true)∧R' (.tuple #[v,.int .i64 0]) h'):
  Spec mach 201 #[.func (.func f) #[] cap] h R' NP:=⟨by kernel_rfl,fun w hw hg=>try_Ra hw hg s.ok fun w1 hw1=>(s.run w1 hw1 hg).mono fun e w2 hp=>by
 cases e with
 |outgrown=>exact(hp:False).elim
 |panicked ch=>obtain⟨_,_,_,_,_,hp⟩:=hp;exact(hp:False).elim
 | returned v=>
  obtain⟨h3,hb,hh,hs,hn,hr⟩:=hp
  obtain⟨hv,hr⟩:=hR v h3 hs hr
  exact⟨h3,hb,hh,hs,hn,hv,fun w3 hf=>⟨h3,hf.below,hf.has,hf.sub,hf.new,hr⟩⟩⟩
theorem F5 {h:PH} {f:FuncId} {cap:Array Value} {e:Int} {R':Value→PH→Prop} (s:Spec mach f cap h NR (fail e)) (hR:∀h',Sub h h'→R' (.tuple #[.agg #[.bool false,.slice none 0 0,.slice none 0 0],.int .i64 e]) h'):
  Spec mach 201 #[.func (.func f) #[] cap] h R' NP:=⟨by kernel_rfl,fun w hw hg=>try_Ra hw hg s.ok fun w1 hw1=>(s.run w1 hw1 hg).mono fun en w2 hp=>by
 cases en with
 |outgrown=>exact(hp:False).elim
 |returned v=>obtain⟨_,_,_,_,_,hp⟩:=hp;exact(hp:False).elim
 | panicked ch=>
  obtain⟨h3,hb,hh,hs,hn,hr⟩:=hp
  exact⟨h3,hb,hh,hs,hn,e,hr,fun w3 hf=>⟨h3,hf.below,hf.has,hf.sub,hf.new,hR h3 hs⟩⟩⟩
end Go.Q
namespace Go.Q
open Go.Proofs
set_option maxRecDepth 100000
set_option maxHeartbeats 4000000
def Qd (f:FuncId) (args:Array Value) (h:PH):Except Int Rat→Prop
 |.ok q=>Spec mach f args h (fun v h'=>Cn h' v q) NP
 |.error e=>Spec mach f args h NR (fail e)
def Qo (h:PH) (r:Value):Except Int Rat→Prop
 |.ok q=>∃u,r=.tuple #[u,.int .i64 0]∧Cn h u q
 |.error e=>r=.tuple #[zRat,.int .i64 e]
theorem Qo.to {h h':PH} {r:Value} {o:Except Int Rat} (k:Qo h r o) [Le h h']:Qo h' r o:=by
 cases o with
 |error e=>exact k
 |ok x=>obtain⟨u,e,c⟩:=k;exact⟨u,e,c.to⟩
theorem Qo.ea {h:PH} {r:Value} {e:Int} (k:Qo h r (.error e)):r=.tuple #[.agg #[.bool false,.slice none 0 0,.slice none 0 0],.int .i64 e]:=k
theorem Qo.oa {h:PH} {r:Value} {q:Rat} (k:Qo h r (.ok q)):∃b na nl nc da dl dc,r=.tuple #[.agg #[.bool b,.slice na nl nc,.slice da dl dc],.int .i64 0]∧Cn h (.agg #[.bool b,.slice na nl nc,.slice da dl dc]) q:=by
 obtain⟨u,rfl,c⟩:=k
 obtain⟨_,_,_,_,_,_,_,rfl,c⟩:=c.sa
 exact⟨_,_,_,_,_,_,_,rfl,c⟩
theorem Qo.sa {h:PH} {r:Value} {o:Except Int Rat} (k:Qo h r o):∃b na nl nc da dl dc e,r=.tuple #[.agg #[.bool b,.slice na nl nc,.slice da dl dc],.int .i64 e]∧Qo h (.tuple #[.agg #[.bool b,.slice na nl nc,.slice da dl dc],.int .i64 e]) o:=by
 cases o with
 |error e=>cases(k:r=_);exact⟨_,_,_,_,_,_,_,_,rfl,rfl⟩
 | ok x=>
  obtain⟨_,_,_,_,_,_,_,rfl,c⟩:=k.oa
  exact⟨_,_,_,_,_,_,_,_,rfl,_,rfl,c⟩
theorem tryQ_any {h:PH} {f:FuncId} {cap:Array Value} {o:Except Int Rat} (g:Qd f cap h o):Spec mach 201 #[.func (.func f) #[] cap] h (fun r h'=>Qo h' r o) NP:=by
 cases o with
 |ok b=>exact tryRa_ok g (fun v h' _ r=>by
   obtain⟨_,_,_,_,_,_,_,rfl,c⟩:=r.sa
   exact⟨⟨_,_,_,rfl,rfl⟩,_,rfl,c⟩)
 |error e=>exact F5 g (fun _ _=>rfl)
def midQ:NS→Rat
 |.e=>0
 |.i none none=>((0:Int):Rat)
 |.i (some a) none=>a+((1:Int):Rat)
 |.i none (some b)=>b+((-1:Int):Rat)
 |.i (some a) (some b)=>(a+b) / 2
def midO (x:RI):Except Int Rat:=bif x.big then .error 1 else bif x.set.void then .error 2 else bif decide (sz (midQ x.set)≤2048) then .ok (midQ x.set) else .error 1
theorem DT {x:Rat}:sgn (decide (x.num < 0)) x.num.natAbs (x.den*2^1)=x / 2:=by
 have h:=qZ x (2:Rat)⁻¹
 have e1:((2:Rat)⁻¹).num=1:=by rw[Rat.num_inv];rfl
 have e2:((2:Rat)⁻¹).den=2:=by rw[Rat.den_inv];rfl
 rw[e1,e2] at h
 have e3:(!(decide (x.num < 0) == decide ((1:Int) < 0)))=decide (x.num < 0):=by cases decide (x.num < 0)<;>rfl
 rw[e3] at h
 have e4:x.num.natAbs*(1:Int).natAbs=x.num.natAbs:=by simp
 rw[e4] at h
 rw[qAx,←h,Nat.pow_one]
theorem Middle1 {h0 h:PH} [Le h0 h] {v:Value} {x:RI} {b1:Nat} {cs:List Value} (hv:Iv h0 v x) (hc:v=.agg cs.toArray) (hl:cs.length=8) (hb1:h b1=some cs.toArray):
  Qd 202 #[.pointer (some ⟨b1,0,none⟩)] h (midO x):=by
 subst hc
 unfold midO
 cases g:x.big with
 | true=>
  dsimp only[cond_true]
  refine Spec.go [] Tryz.func202 rfl rfl (by kernel_rfl) fun C _=>?_
  try simp(disch:=omega) only[go_sem,ξ,ζ]
  refine dL cs hl (dG hb1) ?_
  try simp(disch:=omega) only[go_sem,ξ,ζ]
  exact caF (by exact fF hv g) (fun _ _ h=>h)
 | false =>
  dsimp only[cond_false]
  have kR:=fun {h} [Le h0 h]=>dK (h:=h) hv g
  have hs:=RI.le30 g
  generalize x.set=s at*
  cases s with
  | e=>
   dsimp only[NS.void,cond_true]
   refine Spec.go [] Tryz.func202 rfl rfl (by kernel_rfl) fun C _=>?_
   try simp(disch:=omega) only[go_sem,ξ,ζ]
   refine dL cs hl (dG hb1) ?_
   try simp(disch:=omega) only[go_sem,ξ,ζ]
   refine caN (by exact kR) ?_;rintro s1 h1 st1 hs1;obtain⟨_,_,_,_,_,_,_,_,_,_,_,_,_,_,_,_,rfl,hs1⟩:=hs1.ee
   try simp(disch:=omega) only[go_sem,ξ,ζ]
   exact caF (by exact jm (by decide)) (fun _ _ h=>h)
  | i a b =>
   rw[NS.le_i] at hs
   have kR:=fun {h} [Le h0 h]=>(kR (h:=h)).mono (R':=fun v h'=>Sn h' v (.i a b)) (E':=NP) (fun _ _ _ k=>k) (fun _ _ _ k=>k)
   dsimp only[NS.void,cond_false]
   by_cases hz:sz (midQ (.i a b))≤2048
   ·rw[decide_eq_true hz,cond_true]
    cases a with
    | none=>
     cases b with
     | none=>
      refine Spec.go [] Tryz.func202 rfl rfl (by kernel_rfl) fun C _=>?_
      try simp(disch:=omega) only[go_sem,ξ,ζ]
      refine dL cs hl (dG hb1) ?_
      try simp(disch:=omega) only[go_sem,ξ,ζ]
      refine caN (by exact kR) ?_;rintro s1 h1 st1 hs1;obtain⟨_,_,_,_,_,_,_,_,_,_,_,_,_,_,rfl,e1,e2⟩:=hs1.ie
      try simp(disch:=omega) only[go_sem,ξ,ζ]
      dsimp only[Option.isNone]
      try simp(disch:=omega) only[go_sem,ξ,ζ]
      refine caN (by exact cB (n:=0) (by decide) (by decide)) ?_;rintro _ h2 _ f2;obtain⟨_,_,_,_,_,_,_,rfl,f2⟩:=f2.sa
      try simp(disch:=omega) only[go_sem,ξ,ζ]
      refine caN (by exact cO f2 hz) ?_;rintro v8 h8 s8 ⟨u8,rfl,q8⟩;obtain⟨_,_,_,_,_,_,_,rfl,q8⟩:=q8.sa
      try simp(disch:=omega) only[go_sem,ξ,ζ]
      refine caN (by exact fm q8) ?_;rintro v9 h9 s9 rfl
      try simp(disch:=omega) only[go_sem,ξ,ζ]
      exact q8.to
     | some b=>
      refine Spec.go [] Tryz.func202 rfl rfl (by kernel_rfl) fun C _=>?_
      try simp(disch:=omega) only[go_sem,ξ,ζ]
      refine dL cs hl (dG hb1) ?_
      try simp(disch:=omega) only[go_sem,ξ,ζ]
      refine caN (by exact kR) ?_;rintro s1 h1 st1 hs1;obtain⟨_,_,_,_,_,_,_,_,_,_,_,_,_,_,rfl,e1,e2⟩:=hs1.ie
      try simp(disch:=omega) only[go_sem,ξ,ζ]
      dsimp only[Option.isNone]
      try simp(disch:=omega) only[go_sem,ξ,ζ]
      refine caN (by exact cB (n:=-1) (by decide) (by decide)) ?_;rintro _ h2 _ f2;obtain⟨_,_,_,_,_,_,_,rfl,f2⟩:=f2.sa
      try simp(disch:=omega) only[go_sem,ξ,ζ]
      refine caN (by exact iV (e2.num.to (h':=h2)) f2 (up36 (hs.2 _ rfl)) (by decide)) ?_;rintro _ h3 _ f3;obtain⟨_,_,_,_,_,_,_,rfl,f3⟩:=f3.sa
      try simp(disch:=omega) only[go_sem,ξ,ζ]
      refine caN (by exact cO f3 hz) ?_;rintro v8 h8 s8 ⟨u8,rfl,q8⟩;obtain⟨_,_,_,_,_,_,_,rfl,q8⟩:=q8.sa
      try simp(disch:=omega) only[go_sem,ξ,ζ]
      refine caN (by exact fm q8) ?_;rintro v9 h9 s9 rfl
      try simp(disch:=omega) only[go_sem,ξ,ζ]
      exact q8.to
    | some a=>
     cases b with
     | none=>
      refine Spec.go [] Tryz.func202 rfl rfl (by kernel_rfl) fun C _=>?_
      try simp(disch:=omega) only[go_sem,ξ,ζ]
      refine dL cs hl (dG hb1) ?_
      try simp(disch:=omega) only[go_sem,ξ,ζ]
      refine caN (by exact kR) ?_;rintro s1 h1 st1 hs1;obtain⟨_,_,_,_,_,_,_,_,_,_,_,_,_,_,rfl,e1,e2⟩:=hs1.ie
      try simp(disch:=omega) only[go_sem,ξ,ζ]
      dsimp only[Option.isNone]
      try simp(disch:=omega) only[go_sem,ξ,ζ]
      refine caN (by exact cB (n:=1) (by decide) (by decide)) ?_;rintro _ h2 _ f2;obtain⟨_,_,_,_,_,_,_,rfl,f2⟩:=f2.sa
      try simp(disch:=omega) only[go_sem,ξ,ζ]
      refine caN (by exact iV (e1.num.to (h':=h2)) f2 (up36 (hs.1 _ rfl)) (by decide)) ?_;rintro _ h3 _ f3;obtain⟨_,_,_,_,_,_,_,rfl,f3⟩:=f3.sa
      try simp(disch:=omega) only[go_sem,ξ,ζ]
      refine caN (by exact cO f3 hz) ?_;rintro v8 h8 s8 ⟨u8,rfl,q8⟩;obtain⟨_,_,_,_,_,_,_,rfl,q8⟩:=q8.sa
      try simp(disch:=omega) only[go_sem,ξ,ζ]
      refine caN (by exact fm q8) ?_;rintro v9 h9 s9 rfl
      try simp(disch:=omega) only[go_sem,ξ,ζ]
      exact q8.to
     | some b=>
      refine Spec.go [] Tryz.func202 rfl rfl (by kernel_rfl) fun C _=>?_
      try simp(disch:=omega) only[go_sem,ξ,ζ]
      refine dL cs hl (dG hb1) ?_
      try simp(disch:=omega) only[go_sem,ξ,ζ]
      refine caN (by exact kR) ?_;rintro s1 h1 st1 hs1;obtain⟨_,_,_,_,_,_,_,_,_,_,_,_,_,_,rfl,e1,e2⟩:=hs1.ie
      try simp(disch:=omega) only[go_sem,ξ,ζ]
      dsimp only[Option.isNone]
      have b1:=dA a b
      have z1:=hs.1 _ rfl
      have z2:=hs.2 _ rfl
      have b2:=bG (a+b)
      have b3:=bB (a+b)
      try simp(disch:=omega) only[go_sem,ξ,ζ]
      refine caN (by exact iV e1.num e2.num (up36 (hs.1 _ rfl)) (up36 (hs.2 _ rfl))) ?_;rintro v2 h2 s2 f2;obtain⟨na,nl,nc,da,dl,dc,rfl,hn,hd⟩:=f2.sl
      try simp(disch:=omega) only[go_sem,ξ,ζ]
      refine caN (by exact aL (n:=1) hd (by omega)) ?_;rintro _ h3 _ f3;obtain⟨v3,_,_,rfl,f3⟩:=f3.sl
      try simp(disch:=omega) only[go_sem,ξ,ζ]
      refine caN (by exact bW (hn.to (h':=h3)) f3 (qBe (a+b).den_nz (by decide)) (by omega) (by have:=cu (a+b).den 1;omega)) ?_;rintro _ h4 _ f4;obtain⟨_,_,_,_,_,_,_,rfl,f4⟩:=f4.sa
      try simp(disch:=omega) only[go_sem,ξ,ζ]
      rw[DT] at f4
      try simp(disch:=omega) only[go_sem,ξ,ζ]
      refine caN (by exact cO f4 hz) ?_;rintro v8 h8 s8 ⟨u8,rfl,q8⟩;obtain⟨_,_,_,_,_,_,_,rfl,q8⟩:=q8.sa
      try simp(disch:=omega) only[go_sem,ξ,ζ]
      refine caN (by exact fm q8) ?_;rintro v9 h9 s9 rfl
      try simp(disch:=omega) only[go_sem,ξ,ζ]
      exact q8.to
   ·rw[decide_eq_false hz,cond_false]
    cases a with
    | none=>
     cases b with
     | none=>
      refine Spec.go [] Tryz.func202 rfl rfl (by kernel_rfl) fun C _=>?_
      try simp(disch:=omega) only[go_sem,ξ,ζ]
      refine dL cs hl (dG hb1) ?_
      try simp(disch:=omega) only[go_sem,ξ,ζ]
      refine caN (by exact kR) ?_;rintro s1 h1 st1 hs1;obtain⟨_,_,_,_,_,_,_,_,_,_,_,_,_,_,rfl,e1,e2⟩:=hs1.ie
      try simp(disch:=omega) only[go_sem,ξ,ζ]
      dsimp only[Option.isNone]
      try simp(disch:=omega) only[go_sem,ξ,ζ]
      refine caN (by exact cB (n:=0) (by decide) (by decide)) ?_;rintro _ h2 _ f2;obtain⟨_,_,_,_,_,_,_,rfl,f2⟩:=f2.sa
      try simp(disch:=omega) only[go_sem,ξ,ζ]
      refine caN (by exact ms f2 hz) ?_;rintro v8 h8 s8 rfl
      try simp(disch:=omega) only[go_sem,ξ,ζ]
      exact caF (by exact jj (by decide)) (fun _ _ h=>h)
     | some b=>
      refine Spec.go [] Tryz.func202 rfl rfl (by kernel_rfl) fun C _=>?_
      try simp(disch:=omega) only[go_sem,ξ,ζ]
      refine dL cs hl (dG hb1) ?_
      try simp(disch:=omega) only[go_sem,ξ,ζ]
      refine caN (by exact kR) ?_;rintro s1 h1 st1 hs1;obtain⟨_,_,_,_,_,_,_,_,_,_,_,_,_,_,rfl,e1,e2⟩:=hs1.ie
      try simp(disch:=omega) only[go_sem,ξ,ζ]
      dsimp only[Option.isNone]
      try simp(disch:=omega) only[go_sem,ξ,ζ]
      refine caN (by exact cB (n:=-1) (by decide) (by decide)) ?_;rintro _ h2 _ f2;obtain⟨_,_,_,_,_,_,_,rfl,f2⟩:=f2.sa
      try simp(disch:=omega) only[go_sem,ξ,ζ]
      refine caN (by exact iV (e2.num.to (h':=h2)) f2 (up36 (hs.2 _ rfl)) (by decide)) ?_;rintro _ h3 _ f3;obtain⟨_,_,_,_,_,_,_,rfl,f3⟩:=f3.sa
      try simp(disch:=omega) only[go_sem,ξ,ζ]
      refine caN (by exact ms f3 hz) ?_;rintro v8 h8 s8 rfl
      try simp(disch:=omega) only[go_sem,ξ,ζ]
      exact caF (by exact jj (by decide)) (fun _ _ h=>h)
    | some a=>
     cases b with
     | none=>
      refine Spec.go [] Tryz.func202 rfl rfl (by kernel_rfl) fun C _=>?_
      try simp(disch:=omega) only[go_sem,ξ,ζ]
      refine dL cs hl (dG hb1) ?_
      try simp(disch:=omega) only[go_sem,ξ,ζ]
      refine caN (by exact kR) ?_;rintro s1 h1 st1 hs1;obtain⟨_,_,_,_,_,_,_,_,_,_,_,_,_,_,rfl,e1,e2⟩:=hs1.ie
      try simp(disch:=omega) only[go_sem,ξ,ζ]
      dsimp only[Option.isNone]
      try simp(disch:=omega) only[go_sem,ξ,ζ]
      refine caN (by exact cB (n:=1) (by decide) (by decide)) ?_;rintro _ h2 _ f2;obtain⟨_,_,_,_,_,_,_,rfl,f2⟩:=f2.sa
      try simp(disch:=omega) only[go_sem,ξ,ζ]
      refine caN (by exact iV (e1.num.to (h':=h2)) f2 (up36 (hs.1 _ rfl)) (by decide)) ?_;rintro _ h3 _ f3;obtain⟨_,_,_,_,_,_,_,rfl,f3⟩:=f3.sa
      try simp(disch:=omega) only[go_sem,ξ,ζ]
      refine caN (by exact ms f3 hz) ?_;rintro v8 h8 s8 rfl
      try simp(disch:=omega) only[go_sem,ξ,ζ]
      exact caF (by exact jj (by decide)) (fun _ _ h=>h)
     | some b=>
      refine Spec.go [] Tryz.func202 rfl rfl (by kernel_rfl) fun C _=>?_
      try simp(disch:=omega) only[go_sem,ξ,ζ]
      refine dL cs hl (dG hb1) ?_
      try simp(disch:=omega) only[go_sem,ξ,ζ]
      refine caN (by exact kR) ?_;rintro s1 h1 st1 hs1;obtain⟨_,_,_,_,_,_,_,_,_,_,_,_,_,_,rfl,e1,e2⟩:=hs1.ie
      try simp(disch:=omega) only[go_sem,ξ,ζ]
      dsimp only[Option.isNone]
      have b1:=dA a b
      have z1:=hs.1 _ rfl
      have z2:=hs.2 _ rfl
      have b2:=bG (a+b)
      have b3:=bB (a+b)
      try simp(disch:=omega) only[go_sem,ξ,ζ]
      refine caN (by exact iV e1.num e2.num (up36 (hs.1 _ rfl)) (up36 (hs.2 _ rfl))) ?_;rintro v2 h2 s2 f2;obtain⟨na,nl,nc,da,dl,dc,rfl,hn,hd⟩:=f2.sl
      try simp(disch:=omega) only[go_sem,ξ,ζ]
      refine caN (by exact aL (n:=1) hd (by omega)) ?_;rintro _ h3 _ f3;obtain⟨v3,_,_,rfl,f3⟩:=f3.sl
      try simp(disch:=omega) only[go_sem,ξ,ζ]
      refine caN (by exact bW (hn.to (h':=h3)) f3 (qBe (a+b).den_nz (by decide)) (by omega) (by have:=cu (a+b).den 1;omega)) ?_;rintro _ h4 _ f4;obtain⟨_,_,_,_,_,_,_,rfl,f4⟩:=f4.sa
      try simp(disch:=omega) only[go_sem,ξ,ζ]
      rw[DT] at f4
      try simp(disch:=omega) only[go_sem,ξ,ζ]
      refine caN (by exact ms f4 hz) ?_;rintro v8 h8 s8 rfl
      try simp(disch:=omega) only[go_sem,ξ,ζ]
      exact caF (by exact jj (by decide)) (fun _ _ h=>h)
theorem Cx {h0 h:PH} [Le h0 h] {v:Value} {x:RI} (hv:Iv h0 v x):Spec mach 122 #[v] h (fun r h'=>Qo h' r (midO x)) NP:=by
 have hv0:=hv
 obtain⟨a1,m1,c1,a2,m2,c2,a3,m3,c3,a4,m4,c4,rfl,_,_⟩:=hv.sa
 refine Spec.go [(1,.t (.p 0 (.s [0,1,2,3,4,5] .d)))] Tryz.func122 rfl rfl (by kernel_rfl) fun C _=>?_
 try simp(disch:=omega) only[go_sem,ξ,ζ]
 intro b1 h1 st1 hb1
 try simp(disch:=omega) only[go_sem,ξ,ζ]
 have hb1:=hb1 (by simp)
 refine caN (by exact tryQ_any (Middle1 (hv0.to (h':=h1)) rfl rfl hb1)) ?_;rintro r3 h3 st3 hr3;obtain⟨_,_,_,_,_,_,_,_,rfl,hr3⟩:=hr3.sa
 try simp(disch:=omega) only[go_sem,ξ,ζ]
 exact hr3
def Qc (h:PH) (cs:List Value) (s:ByteArray×Rat):Prop:=∃ds:List Value,cs=.string s.1 :: ds∧ds.length=3∧Cn h (.agg ds.toArray) s.2
def Pcx (h:PH) (v:Value) (l:List (ByteArray×Rat)):Prop:=∃a c,v=.slice a l.length c∧∀i s,l[i]?=some s→∃ad cs,a=some ad∧Qc h cs s∧∀j v,cs[j]?=some v→h.at ((ad.add (i*4)).add j)=some v
theorem Pcx.of {h:PH} {b c:Nat} {row:List Value} {l:List (ByteArray×Rat)} (hb:h b=some row.toArray) (hr:RowOf 4 (Qc h) row l):Pcx h (.slice (some ⟨b,0,none⟩) l.length c) l:=by
 refine⟨_,_,rfl,fun i s hi=>⟨_,_,rfl,hr.2 i s hi,fun j v hj=>?_⟩⟩
 rw[at_off hb]
 rw[List.getElem?_take] at hj
 split at hj
 ·rw[List.getElem?_drop] at hj
  simpa using hj
 ·cases hj
theorem Pcx.to {h h':PH} {v:Value} {l:List (ByteArray×Rat)} (r:Pcx h v l) [t:Le h h']:Pcx h' v l:=by
 obtain⟨a,c,rfl,k⟩:=r
 refine⟨a,c,rfl,fun i s hi=>?_⟩
 obtain⟨ad,cs,h1,⟨ds,e1,e2,e3⟩,h3⟩:=k i s hi
 exact⟨ad,cs,h1,⟨ds,e1,e2,e3.to⟩,fun j v hj=>t.sub.at (h3 j v hj)⟩
def cq (x:Sd1):ByteArray×Rat:=(x.1,midQ x.2.set)
def cenOk (l:List Sd1):Bool:=l.all fun x=>decide (sz (midQ x.2.set)≤2048)
def CenV (h:PH) (r:Value) (l:List Sd1):Prop:=match cenOk l with
 |true=>∃u,r=.tuple #[u,.int .i64 0]∧Pcx h u (l.map cq)
 |false=>r=.tuple #[.slice none 0 0,.int .i64 1]
def CenR (h:PH) (r:Value) (l:List Sd1):Prop:=match okB l with
 |true=>CenV h r l
 |false=>r=.tuple #[.slice none 0 0,.int .i64 50]
theorem okB_void {l:List Sd1} (h:okB l=true) {i:Nat} {x:Sd1} (hx:l[i]?=some x):x.2.set.void=false:=by
 unfold okB at h
 rw[φ] at h
 have:=qBd.1 h.2 i (List.mem_range.2 (List.getElem?_eq_some_iff.1 hx).1)
 unfold okS at this
 rw[hx] at this
 simp only[φ,Bool.not_eq_true'] at this
 exact this.2
theorem map_take {α β:Type} {f:α→β} {l:List α} {i:Nat} {y:α} (hy:l[i]?=some y):(l.take (i+1)).map f=(l.take i).map f ++[f y]:=by
 rw[List.take_add_one,hy];simp
theorem cenOk_yes {l:List Sd1} (h:∀j x,j < l.length→l[j]?=some x→decide (sz (midQ x.2.set)≤2048)=true):cenOk l=true:=qBd.2 fun x hx=>by
 obtain⟨j,hj⟩:=List.getElem?_of_mem hx
 exact h j x (List.getElem?_eq_some_iff.1 hj).1 hj
set_option maxHeartbeats 8000000

theorem okB_big {l:List Sd1} (h:okB l=true) {i:Nat} {x:Sd1} (hx:l[i]?=some x):x.2.big=false:=by
 unfold okB at h
 rw[φ] at h
 have:=qBd.1 h.2 i (List.mem_range.2 (List.getElem?_eq_some_iff.1 hx).1)
 unfold okS at this
 rw[hx] at this
 simp only[φ,Bool.not_eq_true'] at this
 exact this.1.2
theorem Boxv.side {h:PH} {v:Value} {l:List Sd1} (r:Boxv h v l):∃a c,v=.slice a l.length c∧l.length≤2^30∧∀i x,l[i]?=some x→∃ad a1 m1 c1 a2 m2 c2 a3 m3 c3 a4 m4 c4,a=some ad∧
  (∀j v,([.string x.1,.bool x.2.n1,.slice a1 m1 c1,.slice a2 m2 c2,.bool x.2.n2,.slice a3 m3 c3,.slice a4 m4 c4,.bool x.2.l,.bool x.2.u]:List Value)[j]?=some v→h.at ((ad.add (i*9)).add j)=some v)∧
  Rw h (.agg #[.bool x.2.n1,.slice a1 m1 c1,.slice a2 m2 c2]) x.2.n1 x.2.a1 x.2.d1∧Rw h (.agg #[.bool x.2.n2,.slice a3 m3 c3,.slice a4 m4 c4]) x.2.n2 x.2.a2 x.2.d2∧Iv h (.agg #[.bool x.2.n1,.slice a1 m1 c1,.slice a2 m2 c2,.bool x.2.n2,.slice a3 m3 c3,.slice a4 m4 c4,.bool x.2.l,.bool x.2.u]) x.2:=by
 obtain⟨a,c,rfl,hl,k⟩:=r
 refine⟨a,c,rfl,hl,fun i x hx=>?_⟩
 obtain⟨ad,b1,a1,m1,c1,a2,m2,c2,b2,a3,m3,c3,a4,m4,c4,e,u,rfl,hat,hiv⟩:=k i x hx
 obtain⟨_,_,_,_,_,_,_,_,_,_,_,_,e0,r1,r2⟩:=hiv.sa
 have e1:=e0
 simp only[Value.agg.injEq,Array.mk.injEq,List.cons.injEq,and_true,Value.bool.injEq] at e1
 obtain⟨rfl,g1,g2,rfl,g3,g4,rfl,rfl⟩:=e1
 rw[←g1,←g2] at r1
 rw[←g3,←g4] at r2
 exact⟨ad,a1,m1,c1,a2,m2,c2,a3,m3,c3,a4,m4,c4,rfl,hat,r1,r2,hiv⟩
end Go.Q
namespace Go.Q
open Go.Proofs Go.RowKit
attribute [local go_sem] Oper.semAt_some
set_option maxRecDepth 100000
set_option maxHeartbeats 4000000
def sideF (l:List Sd1) (h:PH) (i:Nat) (x:Nat×List Value) (W0 W1:World):Prop:=x.1=i∧ivC x.2∧∃hn s,l[i]?=some s∧Sub h hn∧Has W1 hn∧New W0.heap.size h hn∧Iv hn (.agg x.2.toArray) s.2
def nmAt (l:List Sd1) (i:Nat):ByteArray:=(l[i]?.map (·.1)).getD ⟨#[]⟩
theorem box_x {n:Nat} {h0 h:PH} [l0:Le h0 h] {v:Value} {l:List Sd1} (hv:Boxv h0 v l) (hg:Sub mach.gl h) {B:Nat} {T:TypeId} {f:Nat×Nat}:
  SeqX Fence.wide n Tryz.prog 200 #[.pointer (some ⟨B,0,none⟩)] (fun x:Nat×List Value=>#[.int .i64 x.1,.agg (.string (nmAt l x.1) :: x.2).toArray]) (sideF l h) l.length (fun W=>Has W h∧W.heap[B]?=some (.cells #[v] T f)):=by
 obtain⟨a,c,rfl,hl,k⟩:=hv
 have k':∀i,∃C:List Value,∀s,l[i]?=some s→ivC C∧Iv h0 (.agg C.toArray) s.2∧∃ad:Addr,a=some ad∧∀j u,(sdC s.1 C)[j]?=some u→h0.at ((ad.add (i*9)).add j)=some u:=fun i=>by
  cases e:l[i]? with
  |none=>exact⟨[],fun s hs=>by cases hs⟩
  | some s=>
   obtain⟨ad,b1,a1,m1,c1,a2,m2,c2,b2,a3,m3,c3,a4,m4,c4,e,u,h1,h2,h3⟩:=k i s e
   exact⟨_,fun s' hs=>by cases hs;exact⟨⟨b1,a1,m1,c1,a2,m2,c2,b2,a3,m3,c3,a4,m4,c4,e,u,rfl⟩,h3,ad,h1,h2⟩⟩
 obtain⟨C,hC⟩:=Classical.axiomOfChoice k'
 have hs:∀i,i < l.length→∃s,l[i]?=some s:=fun i hi=>⟨_,List.getElem?_eq_getElem hi⟩
 obtain⟨blk,off,hA⟩:∃blk off,∀i,i < l.length→a=some ⟨blk,off,none⟩:=by
  cases a with
  |none=>exact⟨0,0,fun i hi=>by
    obtain⟨s,h1⟩:=hs i hi
    obtain⟨_,_,_,e,_⟩:=hC i s h1
    cases e⟩
  | some ad=>
   refine⟨ad.block,ad.off,fun i hi=>?_⟩
   obtain⟨s,h1⟩:=hs 0 (by omega)
   obtain⟨_,_,ad',e,h2⟩:=hC 0 s h1
   cases e
   have h3:=h2 0 _ rfl
   have hsp:ad.spot=none:=by
    cases e:ad.spot with
    |none=>rfl
    |some q=>simp[PH.at,Addr.add,e] at h3
   cases ad
   cases hsp
   rfl
 have hat:∀W,(Has W h∧W.heap[B]?=some (.cells #[.slice a l.length c] T f))→∀i,i < l.length→∀(j:Nat) u,(sdC (nmAt l i) (C i))[j]?=some u→W.cell? ⟨blk,off+i*9+j,none⟩=some u:=fun W hw i hi j u hu=>by
  obtain⟨s,h1⟩:=hs i hi
  obtain⟨_,_,ad,e,h2⟩:=hC i s h1
  rw[hA i hi] at e
  cases e
  have hn:nmAt l i=s.1:=by unfold nmAt;rw[h1];rfl
  rw[hn] at hu
  have h3:=hw.1.cell (l0.sub.at (h2 j u hu))
  have e:((⟨blk,off,none⟩:Addr).add (i*9)).add j=⟨blk,off+i*9+j,none⟩:=by
   unfold Addr.add
   split<;>split<;>simp_all
  rwa[e] at h3
 refine(sides_x (n:=n) (T:=T) (f:=f) (blk:=blk) (off:=off) hl (fun W hw=>hw.2) (fun A D hA hb=>⟨hA.1.below hb,(hb.block _ (Array.getElem?_eq_some_iff.1 hA.2).1).trans hA.2⟩) hA (S:=nmAt l) (C:=C) (fun i hi=>let ⟨s,h1⟩:=hs i hi;(hC i s h1).1) hat
  (Own:=fun i u W W'=>ivC u∧∃hn s,l[i]?=some s∧Sub h hn∧Has W' hn∧New W.heap.size h hn∧Iv hn (.agg u.toArray) s.2) (fun i m W hi hb=>?_)).mono fun i x W0 W1 hf=>?_
 ·obtain⟨s,h1⟩:=hs i hi
  refine callsIn_wide.2 (((Own_spec (h0:=h0) (h:=h) (hC i s h1).2.1).run W hb.1 hg).mono fun e W' hp=>?_)
  cases e with
  |outgrown=>exact(hp:False).elim
  |panicked ch=>obtain⟨_,_,_,_,_,hp⟩:=hp;exact(hp:False).elim
  | returned v=>
   obtain⟨hn,p1,p2,p3,p4,p5⟩:=hp
   obtain⟨_,_,_,_,_,_,_,_,_,_,_,_,rfl,_,_⟩:=p5.sa
   exact⟨_,rfl,⟨_,_,_,_,_,_,_,_,_,_,_,_,_,_,_,_,rfl⟩,p1,⟨_,_,_,_,_,_,_,_,_,_,_,_,_,_,_,_,rfl⟩,hn,s,h1,p3,p2,p4,p5⟩
 ·obtain⟨e,Wc,hb,hi,hn,s,h1,h2,h3,h4,h5⟩:=hf
  refine⟨e,hi,hn,s,h1,h2,h3,fun k hk=>?_,h5⟩
  rcases h4 k hk with g |g
  ·exact .inl g
  ·exact .inr (χ hb.size g)
theorem Has.set {W:World} {h:PH} (hh:Has W h) {b:Nat} (hb:h b=none) (v:Value):Has (W.setCell ⟨b,0,none⟩ v) h:=hh.kept (grownBy_setCell' W b v) (fun r e=>by cases e;exact hb)
def cenI (w:World) (h:PH) (l:List Sd1) (va:Option Addr) (vc:Nat) (i:Nat) (W:World):Prop:=(∃hp u,Col w h (w.heap.size+1+1) 41 105 4 Qc [(w.heap.size,#[.slice none 0 0],41),(w.heap.size+1,#[.int .i64 0],36),(w.heap.size+1+1+1,#[.slice va l.length vc],28)] ((l.take i).map cq) hp u W)∧∀j x',j < i→l[j]?=some x'→decide (sz (midQ x'.2.set)≤2048)=true
def cenX (w:World) (h:PH) (l:List Sd1) (c:Code) (W:World):Prop:=(c=.ret∧cenOk l=false)∧Quit w h [(w.heap.size,#[.slice none 0 0],41),(w.heap.size+1,#[.int .i64 1],36)] W
def cenM (w:World) (h:PH) (l:List Sd1) (va:Option Addr) (vc:Nat) (i:Nat) (x:Nat×List Value) (a':Act) (W:World):Prop:=
 (∃ hp u,(∃Bx s,Col w h (w.heap.size+1+1) 41 105 4 Qc [(Bx,(.string (nmAt l x.1) :: x.2).toArray,53),(w.heap.size,#[.slice none 0 0],41),(w.heap.size+1,#[.int .i64 0],36),(w.heap.size+1+1+1,#[.slice va l.length vc],28)] ((l.take i).map cq) hp u W∧l[i]?=some s∧Iv hp (.agg x.2.toArray) s.2∧
    a'={tmps:=#[.slice va l.length vc,undef,.pointer (some ⟨w.heap.size,0,none⟩),.pointer (some ⟨w.heap.size+1,0,none⟩),.pointer (some ⟨w.heap.size+1+1,0,none⟩),undef,.pointer (some ⟨Bx,0,none⟩),undef,undef,.slice va l.length vc,.func (.func 200) #[] #[.pointer (some ⟨w.heap.size+1+1+1,0,none⟩)],.int .i64 x.1,.agg (.string (nmAt l x.1) :: x.2).toArray,undef,undef,undef,undef,undef,undef,undef,undef,undef,undef,undef,undef,undef,undef,undef,undef,undef],defers:=[]}))∧
    (x.1=i∧ivC x.2∧∀j x',j < i→l[j]?=some x'→decide (sz (midQ x'.2.set)≤2048)=true)
theorem qc_up (a b:PH) (hs:Sub a b) (cs:List Value) (s:ByteArray×Rat) (q:Qc a cs s):Qc b cs s:=by
 haveI:Le a b:=⟨hs⟩
 obtain⟨ds,e1,e2,e3⟩:=q
 exact⟨ds,e1,e2,e3.to⟩
theorem center_ok {h0 h:PH} [l0:Le h0 h] {v:Value} {l:List Sd1} (hv:Boxv h0 v l) (hok:okB l=true):Spec mach 64 #[v] h (fun r h'=>CenV h' r l) NP:=by
 refine⟨by kernel_rfl,fun w hw hg=>?_⟩
 refine(callsIn_wide (n:=8)).1 ?_
 show CallsIn Fence.wide 8 Tryz.prog _ _ w _
 have hro:Fence.wide.round=none:=rfl
 have g1:Fence.wide.fn 121:=trivial
 have g2:Fence.wide.fn 122:=trivial
 have kX:=fun {B:Nat}=>box_x (n:=8) (B:=B) (T:=28) (f:=(0,0)) hv hg
 obtain⟨va,vc,rfl,_⟩:=hv
 refine callsIn_of_wp_marks Tryz.func64 rfl trivial ?_ hro
 simp only[Tryz.ntmps64,List.size_toArray,List.length_cons,List.length_nil,ζ,Nat.reduceSub,Array.replicate_succ,Array.replicate_zero,List.push_toArray,List.append_toArray,List.nil_append,List.cons_append]
 gi_wp2_with (gi_at_call 121;refine(sides_in (n:=7)).mono ?_;rintro e w2 ⟨rfl,rfl⟩)
 obtain⟨W0,hW0⟩:∃W0,(((w.alloc (.cells #[.slice none 0 0] 41)).alloc (.cells #[.int .i64 0] 36)).alloc (.cells #[.slice none 0 0] 41)).alloc (.cells #[.slice va l.length vc] 28)=W0:=⟨_,rfl⟩
 rw[hW0]
 have hb0:Below w.heap.size w W0:=by
  rw[←hW0]
  exact((((Below.refl _ w).alloc (η _) _).alloc (by simp) _).alloc (by simp;omega) _).alloc (by simp;omega) _
 have hs0:W0.heap.size=w.heap.size+4:=by rw[←hW0];simp
 have b3:W0.heap[w.heap.size+1+1+1]?=some (.cells #[.slice va l.length vc] 28 (0,0)):=by
  rw[←hW0];simpa using World.alloc_heap_new (((w.alloc (.cells #[.slice none 0 0] 41)).alloc (.cells #[.int .i64 0] 36)).alloc (.cells #[.slice none 0 0] 41)) (.cells #[.slice va l.length vc] 28)
 have b2:Boxed W0 (w.heap.size+1+1) 41 (.slice none 0 0):=by
  rw[←hW0];exact(by simpa using Boxed.new ((w.alloc (.cells #[.slice none 0 0] 41)).alloc (.cells #[.int .i64 0] 36)) 41 (.slice none 0 0):Boxed _ (w.heap.size+1+1) _ _).alloc _
 have b1:Boxed W0 (w.heap.size+1) 36 (.int .i64 0):=by
  rw[←hW0];exact((by simpa using Boxed.new (w.alloc (.cells #[.slice none 0 0] 41)) 36 (.int .i64 0):Boxed _ (w.heap.size+1) _ _).alloc _).alloc _
 have b0:Boxed W0 w.heap.size 41 (.slice none 0 0):=by
  rw[←hW0];exact(((Boxed.new w 41 (.slice none 0 0)).alloc _).alloc _).alloc _
 have hw0:Has W0 h:=hw.below hb0
 clear hW0
 refine range_x (n:=8) hro (by decide) (gf:=200) (lb:=#[.pointer (some ⟨w.heap.size+1+1+1,0,none⟩)]) rfl trivial (enters_of Tryz.func200 (by kernel_rfl) rfl)
  kX (fun W hb=>⟨hw0.below hb,(hb.block _ (by omega)).trans b3⟩) (fun _=>rfl)
  (cenI w h l va vc) (cenX w h l)
  (col_own (by omega) (fun i=>(l.take i).map cq) _) (quit_own (by omega) (fun c=>c=Code.ret∧cenOk l=false) (fun _=>_)) (fun i W ⟨⟨hp,u,c⟩,_⟩=>⟨fun b cs hx=>c.has b cs (c.sub _ _ hx),(c.rest _ (List.mem_cons_of_mem _ (List.mem_cons_of_mem _ (qAt ..)))).1⟩)
  ⟨⟨h,_,Col.start hw hb0 (by omega) b2 (fun x hx=>by
   rcases List.mem_cons.1 hx with rfl |hx
   ·exact⟨b0,η _,by show w.heap.size≠_;omega⟩
   ·rcases List.mem_cons.1 hx with rfl |hx
    ·exact⟨b1,by show _≤w.heap.size+1;omega,by show w.heap.size+1≠_;omega⟩
    ·obtain rfl:=qBc.1 hx
     exact⟨b3,by show _≤w.heap.size+1+1+1;omega,by show w.heap.size+1+1+1≠_;omega⟩)⟩,fun j x' hj=>by omega⟩
  (cenM w h l va vc)
  (fun i x a' _ _ _ _ ⟨⟨hp,u,Bx,s,c,q⟩,g⟩ hg hr=>⟨⟨hp,u,Bx,s,c.kept hg fun r e=>⟨χ (by omega) (hr r e).1,(hr r e).2⟩,q⟩,g⟩)
  ?assign ?body ?done ?stop
 case assign=>
  rintro lr i ⟨xi,xl⟩ Wa W hi ⟨⟨hp,u,c⟩,hG⟩ hgr _ ⟨rfl,⟨p1,p2,p3,p4,p5,p6,p7,p8,p9,p10,p11,p12,p13,p14,p15,p16,rfl⟩,hn,s,h1,h2,h3,h4,h5⟩
  obtain⟨hj,c2,j2,_⟩:=c.meet hgr h2 h3 h4 qc_up
  haveI:Le hn hj:=⟨j2⟩
  dsimp only
  gi_wp2
  refine⟨(KeepsOthers.alloc _ _).from _,?_⟩
  unfold cenM
  exact⟨⟨hj,u,_,s,c2.push _ _,h1,h5.to,rfl⟩,rfl,⟨_,_,_,_,_,_,_,_,_,_,_,_,_,_,_,_,rfl⟩,hG⟩
 case body =>
  rintro lr i ⟨xi,xl⟩ a' W hi ⟨⟨hp,u,Bx,s,c,h1,h5,rfl⟩,rfl,⟨p1,p2,p3,p4,p5,p6,p7,p8,p9,p10,p11,p12,p13,p14,p15,p16,rfl⟩,hG⟩
  dsimp only at c h5 ⊢
  have hBx:=(c.rest _ (qAt ..)).1
  dsimp only at hBx
  have d0:=bx_cell hBx 0
  have d1:=bx_cell hBx 1
  have d2:=bx_cell hBx 2
  have d3:=bx_cell hBx 3
  have d4:=bx_cell hBx 4
  have d5:=bx_cell hBx 5
  have d6:=bx_cell hBx 6
  have d7:=bx_cell hBx 7
  have d8:=bx_cell hBx 8
  simp only[List.getElem?_toArray,List.getElem?_cons_zero,List.getElem?_cons_succ] at d0 d1 d2 d3 d4 d5 d6 d7 d8
  have kM:=Cx (h0:=hp) (h:=hp) h5
  unfold midO at kM
  rw[okB_big hok h1,cond_false,okB_void hok h1,cond_false] at kM
  cases hs:decide (sz (midQ s.2.set)≤2048) with
  | false=>
   rw[hs,cond_false] at kM
   unfold Qo zRat at kM
   gi_wp2_with (gi_at_call 122;refine(CallsIn.inRound lr (callsIn_wide.2 (kM.run W c.has (hg.trans c.sub)))).mono ?_;rintro e W2 hP;obtain⟨_,hm,rfl,q1,q2,q3,q4,rfl⟩:=post_ret hP;have c2:=(c.up q3 q2 q1 q4 (qc_up _ _ q3)).less (R':=[(w.heap.size,#[.slice none 0 0],41),(w.heap.size+1,#[.int .i64 0],36),(w.heap.size+1+1+1,#[.slice va l.length vc],28)]) (fun x hx=>List.mem_cons_of_mem _ hx);have r0:=fun o=>((c2.alloc o).rest _ (qAt ..)).1;have r1:=fun o=>((c2.alloc o).rest _ (List.mem_cons_of_mem _ (qAt ..))).1;dsimp only at r0 r1;have r2:=fun o=>Boxed.cell (r0 o);have r3:=fun o=>Boxed.frozen (r0 o);have r4:=fun o v=>Boxed.cell (Boxed.kept (r1 o) (grownBy_setCell' _ w.heap.size v) (by simp));have r5:=fun o v=>Boxed.frozen (Boxed.kept (r1 o) (grownBy_setCell' _ w.heap.size v) (by simp)))
   obtain⟨t1,t2,t3⟩:=(c2.alloc (.cells #[.bool false,.slice none 0 0,.slice none 0 0] 24)).two (.slice none 0 0) (.int .i64 1)
   refine⟨(keeps_of_below q1).trans (((KeepsOthers.alloc _ _).trans ((KeepsOthers.setCell _ _ _).trans (KeepsOthers.setCell _ _ _))).from _),?_⟩
   unfold cenX
   refine⟨⟨rfl,List.all_eq_false.2 ⟨s,List.mem_of_getElem? h1,by rw[hs];decide⟩⟩,t1.quit fun x hx=>?_⟩
   rcases List.mem_cons.1 hx with rfl |hx
   ·exact t2
   ·rcases List.mem_cons.1 hx with rfl |hx
    ·exact t3
    ·cases hx
  | true=>
   rw[hs,cond_true] at kM
   unfold Qo at kM
   have h6:l.length≤6:=by
    unfold okB at hok
    rw[φ] at hok
    exact of_decide_eq_true hok.1
   obtain⟨e0,i0,z0,hU,hi0,hz0,hz1,hz2,_,hy1,hy2⟩:=mkN_some (P:=Tryz.prog) (T:=41) (sz:=4) (by kernel_rfl)
   obtain rfl:e0=105:=by have:=hU.symm.trans Tryz.underlying41;simpa using this
   have hlen:((l.take xi).map cq).length≤6:=by simp;omega
   gi_wp2_with (first
    |(gi_at_call 122;refine(CallsIn.inRound lr (callsIn_wide.2 (kM.run W c.has (hg.trans c.sub)))).mono ?_;rintro e W2 hP;obtain⟨_,hm,rfl,q1,q2,q3,q4,u',rfl,hc5⟩:=post_ret hP;obtain⟨m_0,m_1,m_2,m_3,m_4,m_5,m_6,rfl,hc5⟩:=hc5.sa;have c2:=c.up q3 q2 q1 q4 (qc_up _ _ q3);have r0:=fun o=>((c2.alloc o).rest _ (qAt ..)).1;dsimp only at r0;have r2:=fun o=>bx_cell (r0 o) 0;simp only[List.getElem?_toArray,List.getElem?_cons_zero] at r2;have r3:=fun o=>Boxed.cell (c2.alloc o).box;obtain⟨xs,hx,hR⟩:=(c2.alloc (.cells #[.bool m_0,.slice m_1 m_2 m_3,.slice m_4 m_5 m_6] 24)).row)
    |(gi_at_builtin;refine wpListIn_append_own_at _ rfl _ _ 41 rfl w.heap.size 105 i0 z0 4 i0.bytes hU hi0 hz0 hz1 rfl hz2 (by decide) u _ xs rfl (hx.alloc _) ⟨W2.heap.size+1,0,none⟩ 1 1 [.string (nmAt l xi),.bool m_0,.slice m_1 m_2 m_3,.slice m_4 m_5 m_6] rfl rfl ?_ (by simp[Value.oneCell']) (by unfold maxLen;omega) ?_ ?_ ?_))
   ·exact new_cells (by simp) #[.string (nmAt l xi),.bool m_0,.slice m_1 m_2 m_3,.slice m_4 m_5 m_6] _
   ·exact χ (qAk (Nat.succ_le_succ hlen) hy2) (by decide)
   ·have:=c2.below.size
    simp;omega
   ·intro v' w1 hown hgrow _ hat
    obtain⟨g',cap',e'⟩:=ownsRow_succ hown
    have hn:nmAt l xi=s.1:=by unfold nmAt;rw[h1];rfl
    obtain⟨k1,k2,k3⟩:=(c2.alloc (.cells #[.bool m_0,.slice m_1 m_2 m_3,.slice m_4 m_5 m_6] 24)).app (s:=cq s) (cs:=[.string (nmAt l xi),.bool m_0,.slice m_1 m_2 m_3,.slice m_4 m_5 m_6]) (by decide) (by omega) hx hR rfl ⟨_,by rw[hn];rfl,rfl,hc5⟩ (by simpa using hown) hgrow (by simpa using hat)
    rw[←map_take h1] at k2
    have e1:=k1.cell
    have e2:=k1.frozen
    subst e'
    gi_wp2
    refine⟨(keeps_of_below q1).trans (((KeepsOthers.alloc _ _).trans k3).from _),?_⟩
    unfold cenI
    refine⟨⟨hm,_,k2.less fun x hx=>List.mem_cons_of_mem _ hx⟩,fun j x' hj hx'=>?_⟩
    ·rcases qBj j xi with g |g
     ·exact hG j x' g hx'
     ·obtain rfl:j=xi:=by omega
      rw[h1] at hx';cases hx';exact hs
 case done=>
  rintro D W hD ⟨⟨hp,u,c⟩,hG⟩ hK
  obtain⟨ua,un,uc,rfl⟩:∃a n c,u=.slice a n c:=by
   obtain⟨xs,h1,_⟩:=c.row
   rcases h1.2 with⟨rfl,_⟩ |⟨g,cap,cur,rfl,_⟩
   ·exact⟨_,_,_,rfl⟩
   ·exact⟨_,_,_,rfl⟩
  have r0:Boxed W w.heap.size 41 (.slice none 0 0):=(c.rest _ (qAt ..)).1
  have r1:Boxed W (w.heap.size+1) 36 (.int .i64 0):=(c.rest _ (List.mem_cons_of_mem _ (qAt ..))).1
  have e0:=c.box.cell
  have e1:=r0.cell
  have e2:=r0.frozen
  have e3:=fun v=>(r1.kept (grownBy_setCell' W w.heap.size v) (by simp)).cell
  have e4:=fun v=>(r1.kept (grownBy_setCell' W w.heap.size v) (by simp)).frozen
  gi_wp2
  have hK2:=((KeepsOthers.setCell W ⟨w.heap.size,0,none⟩ (.slice ua un uc)).trans (KeepsOthers.setCell _ ⟨w.heap.size+1,0,none⟩ (.int .i64 0))).same D _ hK rfl
  obtain⟨t1,t2,t3⟩:=c.two (.slice ua un uc) (.int .i64 0)
  have f2:=(t2.kept (grownBy_putObj' _ D (.deferred none)) (by simp;omega)).cell
  have f3:=(t3.kept (grownBy_putObj' _ D (.deferred none)) (by simp;omega)).cell
  refine⟨by simp,.inl ⟨_,_,rfl,run_takeDeferred hK2,?_⟩⟩
  refine⟨_,results_cell2 rfl rfl rfl (by go_simp;rfl) (by go_simp;rfl),?_⟩
  have c3:=t1.kept (grownBy_putObj' _ D (.deferred none)) (fun r e=>by cases e;exact⟨by omega,_,hK2,rfl⟩)
  rw[List.take_length] at c3
  obtain⟨hf,m1,m2,m3,a,cap,e,k⟩:=c3.fin (qc_up _)
  refine⟨hf,c3.below,m1,m2,m3,?_⟩
  unfold CenV
  rw[cenOk_yes hG]
  exact⟨_,rfl,a,cap,e,k⟩
 case stop=>
  rintro D cc W hD ⟨⟨rfl,hcen⟩,hp,m1,m2,m3,m4,m5⟩ hK
  have b0:Boxed W w.heap.size 41 (.slice none 0 0):=m5 _ (qAt ..)
  have b1:Boxed W (w.heap.size+1) 36 (.int .i64 1):=m5 _ (List.mem_cons_of_mem _ (qAt ..))
  gi_wp2
  have f2:=(b0.kept (grownBy_putObj' _ D (.deferred none)) (by simp;omega)).cell
  have f3:=(b1.kept (grownBy_putObj' _ D (.deferred none)) (by simp;omega)).cell
  refine⟨by simp,.inl ⟨_,_,rfl,run_takeDeferred hK,?_⟩⟩
  refine⟨_,results_cell2 rfl rfl rfl (by go_simp;rfl) (by go_simp;rfl),?_⟩
  refine⟨hp,m4.grown (grownBy_putObj' _ D (.deferred none)) m4.size (fun k e=>by cases e;omega),m2.kept (grownBy_putObj' _ D (.deferred none)) (fun r e=>?_),m1,m3,?_⟩
  ·cases e
   cases ex:hp D with
   |none=>rfl
   | some cs=>
    obtain⟨_,_,hx⟩:=m2 _ _ ex
    rw[hK] at hx;cases hx
  ·unfold CenV
   rw[hcen]
end Go.Q
namespace Go.Q
open Go.Proofs
set_option maxRecDepth 100000
set_option maxHeartbeats 8000000
def ptR (x:Bool×Nat×Nat):RI:=⟨x.1,x.2.1,x.2.2,x.1,x.2.1,x.2.2,false,false⟩
def ptE (x:Bool×Nat×Nat):Out:=(ptR x).fin (.ok (ptR x).set)
def dsE (p:Int) (s:RI) (x:Bool×Nat×Nat):Out:=match ptE x with
 |.error e=>.error e
 |.ok z=>subE p s z.ri
theorem fin_le {x:RI} {o:Out} {z:NS} (h:x.fin o=.ok z):z.le 2048:=by
 unfold RI.fin at h
 cases e:x.big with
 |true=>rw[e] at h;cases h
 | false=>
  rw[e,cond_false] at h
  cases o with
  |error e=>cases h
  | ok w=>
   unfold Out.fin at h
   dsimp only at h
   cases e2:decide (w.le 2048) with
   |false=>rw[e2] at h;cases h
   |true=>rw[e2] at h;cases h;exact of_decide_eq_true e2
theorem SpreadS_spec {h0 h:PH} [Le h0 h] {s:ByteArray} {w:Value} {x:RI} {y:Bool×Nat×Nat} {p:Int} {b1 b2 e1 e2:Bool} {a1 a2 a3 a4:Option Addr} {m1 c1 m2 c2 m3 c3 m4 c4:Nat}
  (hv:Iv h0 (.agg #[.bool b1,.slice a1 m1 c1,.slice a2 m2 c2,.bool b2,.slice a3 m3 c3,.slice a4 m4 c4,.bool e1,.bool e2]) x) (hw:Rw h0 w y.1 y.2.1 y.2.2):
  Spec mach 123 #[.agg #[.string s,.bool b1,.slice a1 m1 c1,.slice a2 m2 c2,.bool b2,.slice a3 m3 c3,.slice a4 m4 c4,.bool e1,.bool e2],w,.int .i64 p] h (fun r h'=>Ir h' r (dsE p x y)) NP:=by
 have kP:∀{h:PH} [Le h0 h],Spec mach 61 #[w] h (fun r h'=>Ir h' r (ptE y)) NP:=fun {h} [Le h0 h]=>EE (h:=h) hw
 obtain⟨_,_,_,_,_,_,_,rfl,_⟩:=hw.sa
 unfold dsE
 cases hP:ptE y with
 | error e=>
  rw[hP] at kP
  unfold Ir zIv at kP
  have he:e≠0:=fun h=>by
   unfold ptE RI.fin at hP
   subst h
   cases g:(ptR y).big with
   |true=>rw[g] at hP;cases hP
   | false=>
    rw[g,cond_false] at hP
    unfold Out.fin at hP
    dsimp only at hP
    cases e2:decide ((ptR y).set.le 2048) with
    |false=>rw[e2] at hP;cases hP
    |true=>rw[e2] at hP;cases hP
  have he2:(e != 0)=true:=by simpa using he
  refine Spec.go [] Tryz.func123 rfl rfl (by kernel_rfl) fun C _=>?_
  try simp(maxSteps:=999999) (disch:=omega) only[go_sem,ξ,ζ]
  refine caN (by exact kP) ?_;rintro _ h1 s1 rfl
  try simp(maxSteps:=999999) (disch:=omega) only[go_sem,ξ,ζ,he2]
  all_goals rfl
 | ok z=>
  rw[hP] at kP
  refine Spec.go [] Tryz.func123 rfl rfl (by kernel_rfl) fun C _=>?_
  try simp(maxSteps:=999999) (disch:=omega) only[go_sem,ξ,ζ]
  refine caN (by exact kP) ?_;rintro _ h1 s1 ⟨u,rfl,hu⟩;obtain⟨_,_,_,_,_,_,_,_,_,_,_,_,_,_,_,_,rfl,hu⟩:=hu.sa
  try simp(maxSteps:=999999) (disch:=omega) only[go_sem,ξ,ζ]
  have kS:=qA (h0:=h1) (h:=h1) (p:=p) hv.to (hu.iv (fin_le hP))
  refine caN (by exact kS) ?_;rintro _ h2 s2 r2;obtain⟨_,_,_,_,_,_,_,_,_,_,_,_,_,_,_,_,_,rfl,r2⟩:=r2.sa
  try simp(maxSteps:=999999) (disch:=omega) only[go_sem,ξ,ζ]
  all_goals exact r2
end Go.Q
namespace Go.Q
open Go.Proofs Go.RowKit
attribute [local go_sem] Oper.semAt_some
set_option maxRecDepth 100000
set_option maxHeartbeats 16000000
def addE (p:Int) (x y:RI):Out:=x.fin2 y (rnd p x.set y.set (.ok (x.set.sum y.set)))
theorem addE_nz {p:Int} {x y:RI}:Enz (addE p x y):=fin2_nz (rnd_nz fun e he=>by cases he)
def addS (p:Int) (o o2:Out):Out:=match o with
 |.error e=>.error e
 | .ok x=>match o2 with
  |.error e=>.error e
  |.ok y=>addE p x.ri y.ri
def timesS (p:Int) (o:Out) (x y:RI):Out:=match o with
 |.error e=>.error e
 |.ok z=>addS p (.ok z) (mulE p x y)
def SmR (h:PH) (vs:List Value) (e:Int):Out→Prop
 |.ok z=>e=0∧z.le 2048∧Cv h (.agg vs.toArray) z
 |.error e'=>e=e'∧e'≠0
theorem SmR.to {h h':PH} {vs:List Value} {e:Int} {o:Out} (r:SmR h vs e o) [Le h h']:SmR h' vs e o:=by
 cases o with
 |ok z=>exact⟨r.1,r.2.1,r.2.2.to⟩
 |error e'=>exact r
theorem grown_setN (W:World) (b i:Nat) (v:Value):W.grownBy (W.setCell ⟨b,i,none⟩ v) (some b):=by
 refine⟨rfl,rfl,rfl,by simp[World.setCell],fun k _ hk=>?_⟩
 show(W.heap.modify b _)[k]?=_
 rw[Array.getElem?_modify,if_neg (fun e=>hk (by rw[e]))]
structure Smx (W:World) (hp:PH) (B:Nat) (p:Int) (o:Out):Prop where
 has:Has W hp
 priv:hp B=none
 at_:∃(b1:Bool) (a1:Option Addr) (m1 k1:Nat) (a2:Option Addr) (m2 k2:Nat) (b2:Bool) (a3:Option Addr) (m3 k3:Nat) (a4:Option Addr) (m4 k4:Nat) (e1 e2:Bool) (e:Int) (T:TypeId),
  W.heap[B]?=some (.cells #[.int .i64 p,.bool b1,.slice a1 m1 k1,.slice a2 m2 k2,.bool b2,.slice a3 m3 k3,.slice a4 m4 k4,.bool e1,.bool e2,.int .i64 e] T (0,0))∧SmR hp [.bool b1,.slice a1 m1 k1,.slice a2 m2 k2,.bool b2,.slice a3 m3 k3,.slice a4 m4 k4,.bool e1,.bool e2] e o
theorem SumAdd_in {N:Nat} {W0:World} {h0:PH} {B:Nat} {p:Int} {o o2:Out} (s:Smx W0 h0 B p o) (hg:Sub mach.gl h0) {b1 b2 e1 e2:Bool} {a1 a2 a3 a4:Option Addr} {m1 k1 m2 k2 m3 k3 m4 k4:Nat} {e:Int}
  (ho:SmR h0 [.bool b1,.slice a1 m1 k1,.slice a2 m2 k2,.bool b2,.slice a3 m3 k3,.slice a4 m4 k4,.bool e1,.bool e2] e o2):
  CallsIn Fence.wide N Tryz.prog 128 #[.pointer (some ⟨B,0,none⟩),.agg #[.bool b1,.slice a1 m1 k1,.slice a2 m2 k2,.bool b2,.slice a3 m3 k3,.slice a4 m4 k4,.bool e1,.bool e2],.int .i64 e] W0
   fun e W'=>(∃v,e=.returned v)∧Kx 1 (fun _=>B) W0 W'∧∃hp,Sub h0 hp∧New W0.heap.size h0 hp∧Smx W' hp B p (addS p o o2):=by
 have hdd:∀k:Nat,(Fence.wide.depth.isSome=true→1≤k):=fun k h=>by cases h
 have hmix:Tryz.prog.follows .mixedOrders=true:=by kernel_rfl
 have htk:tk mach.P 35=some (some 8):=by kernel_rfl
 have htk1:tk mach.P 36=some none:=by kernel_rfl
 obtain⟨hh,hpv,c1,d1,n1,l1,d2,n2,l2,c2,d3,n3,l3,d4,n4,l4,f1,f2,ee,T,hB,hS⟩:=s
 have hlt:=(Array.getElem?_eq_some_iff.1 hB).1
 have hA:=fun o=>(Below.heap_alloc W0 o B hlt).trans hB
 have q9:=fun o=>bx_cell (hA o) 9
 simp only[List.getElem?_toArray,List.getElem?_cons_zero,List.getElem?_cons_succ] at q9
 have hS9:∀v,(W0.setCell ⟨B,9,none⟩ v).heap[B]?=some (.cells #[.int .i64 p,.bool c1,.slice d1 n1 l1,.slice d2 n2 l2,.bool c2,.slice d3 n3 l3,.slice d4 n4 l4,.bool f1,.bool f2,v] T (0,0)):=fun v=>by
  show(W0.heap.modify B _)[B]?=_
  rw[Array.getElem?_eq_getElem (by rw[Array.size_modify];exact hlt),Array.getElem_modify_self,(Array.getElem?_eq_some_iff.1 hB).2]
  rfl
 have hA9:=fun v o=>(Below.heap_alloc (W0.setCell ⟨B,9,none⟩ v) o B (Array.getElem?_eq_some_iff.1 (hS9 v)).1).trans (hS9 v)
 have q10:=fun v o=>bx_cell (hA9 v o) 9
 simp only[List.getElem?_toArray,List.getElem?_cons_zero,List.getElem?_cons_succ] at q10
 have z9:∀o,(W0.alloc o).frozen? ⟨B,9,none⟩=false:=fun o=>by simp[World.frozen?,hA o]
 refine callsIn_of_wp Tryz.func128 rfl trivial ?_ rfl
 simp only[Tryz.ntmps128,List.size_toArray,List.length_cons,List.length_nil,ζ,Nat.reduceSub,Array.replicate_succ,Array.replicate_zero,List.push_toArray,List.append_toArray,List.nil_append,List.cons_append]
 cases o with
 | error e'=>
  obtain⟨rfl,he⟩:=hS
  gi_wp2
  go_end0
  have hb:=(Below.refl W0.heap.size W0).alloc (η _) (.cells #[.bool b1,.slice a1 m1 k1,.slice a2 m2 k2,.bool b2,.slice a3 m3 k3,.slice a4 m4 k4,.bool e1,.bool e2] 35)
  exact⟨⟨_,rfl⟩,Kx.of_below hb,h0,Sub.refl _,fun _ h=>.inl h,hh.below hb,hpv,_,_,_,_,_,_,_,_,_,_,_,_,_,_,_,_,_,_,hA _,rfl,he⟩
 | ok x=>
  obtain⟨rfl,hx,hcx⟩:=hS
  have kx9:∀v o,Kx 1 (fun _=>B) W0 ((W0.setCell ⟨B,9,none⟩ v).alloc o):=fun v o=>((Kx.refl 1 (fun _=>B) W0).put (grown_setN W0 B 9 v) (.inr ⟨0,by decide,rfl⟩)).below ((Below.refl _ _).alloc (η _) _)
  have hh9:∀v o,Has ((W0.setCell ⟨B,9,none⟩ v).alloc o) h0:=fun v o=>(hh.kept (grown_setN W0 B 9 v) (fun r e=>by cases e;exact hpv)).below ((Below.refl _ _).alloc (η _) _)
  cases o2 with
  | error e'=>
   obtain⟨rfl,he⟩:=ho
   gi_wp2
   go_end0
   exact⟨⟨_,rfl⟩,kx9 _ _,h0,Sub.refl _,fun _ h=>.inl h,hh9 _ _,hpv,_,_,_,_,_,_,_,_,_,_,_,_,_,_,_,_,_,_,hA9 _ _,rfl,he⟩
  | ok y=>
   obtain⟨rfl,hy,hcy⟩:=ho
   gi_wp2
   have hT:=World.alloc_heap_new (W0.setCell ⟨B,9,none⟩ (.int .i64 0)) (.cells #[.bool b1,.slice a1 m1 k1,.slice a2 m2 k2,.bool b2,.slice a3 m3 k3,.slice a4 m4 k4,.bool e1,.bool e2] 35)
   rw[show(W0.setCell ⟨B,9,none⟩ (.int .i64 0)).heap.size=W0.heap.size from Array.size_modify ..] at hT
   have hB1:=hA9 (.int .i64 0) (.cells #[.bool b1,.slice a1 m1 k1,.slice a2 m2 k2,.bool b2,.slice a3 m3 k3,.slice a4 m4 k4,.bool e1,.bool e2] 35)
   have kx1:=kx9 (.int .i64 0) (.cells #[.bool b1,.slice a1 m1 k1,.slice a2 m2 k2,.bool b2,.slice a3 m3 k3,.slice a4 m4 k4,.bool e1,.bool e2] 35)
   have hh1:=hh9 (.int .i64 0) (.cells #[.bool b1,.slice a1 m1 k1,.slice a2 m2 k2,.bool b2,.slice a3 m3 k3,.slice a4 m4 k4,.bool e1,.bool e2] 35)
   generalize(W0.setCell ⟨B,9,none⟩ (.int .i64 0)).alloc (.cells #[.bool b1,.slice a1 m1 k1,.slice a2 m2 k2,.bool b2,.slice a3 m3 k3,.slice a4 m4 k4,.bool e1,.bool e2] 35)=W1 at hT hB1 kx1 hh1 ⊢
   clear hS9 hA9 hA q9 q10 z9 kx9 hh9
   have F:=fun w' (hb:Below W1.drew.heap.size W1.drew w')=>(let q:=fun t=>bx_cell hB1 t;let r:=fun t=>bx_cell hT t;And.intro (cellB (w:=W1.drew) hb (q 0)) (And.intro (cellB (w:=W1.drew) hb (q 1)) (And.intro (cellB (w:=W1.drew) hb (q 2)) (And.intro (cellB (w:=W1.drew) hb (q 3)) (And.intro (cellB (w:=W1.drew) hb (q 4)) (And.intro (cellB (w:=W1.drew) hb (q 5)) (And.intro (cellB (w:=W1.drew) hb (q 6)) (And.intro (cellB (w:=W1.drew) hb (q 7)) (And.intro (cellB (w:=W1.drew) hb (q 8)) (And.intro (cellB (w:=W1.drew) hb (q 9)) (And.intro (cellB (w:=W1.drew) hb (r 0)) (And.intro (cellB (w:=W1.drew) hb (r 1)) (And.intro (cellB (w:=W1.drew) hb (r 2)) (And.intro (cellB (w:=W1.drew) hb (r 3)) (And.intro (cellB (w:=W1.drew) hb (r 4)) (And.intro (cellB (w:=W1.drew) hb (r 5)) (And.intro (cellB (w:=W1.drew) hb (r 6)) (cellB (w:=W1.drew) hb (r 7)))))))))))))))))))
   refine wpIn_region_b hmix ?_
   refine tkP 0 rfl rfl (by kernel_rfl) (fun _ _ _ h=>h) (fun _=>rfl) (v:=?_) (fun w'=>?_) ?_
   rotate_left
   ·go_simp<;>rfl
   go_simp
   refine tkP 1 rfl rfl (by kernel_rfl) (fun _ _ _ h=>h) (fun _=>rfl) (v:=?_) (fun w'=>?_) ?_
   rotate_left
   ·go_simp<;>rfl
   go_simp
   refine tkP 2 rfl rfl (by kernel_rfl) (fun _ _ _ h=>h) (fun _=>rfl) (v:=?_) (fun w'=>?_) ?_
   rotate_left
   ·go_simp<;>rfl
   go_simp
   refine tkP 3 rfl rfl (by kernel_rfl) (fun _ _ _ h=>h) (fun _=>rfl) (v:=?_) (fun w'=>?_) ?_
   rotate_left
   ·go_simp<;>rfl
   go_simp
   refine tkP 4 rfl rfl (by kernel_rfl) (fun _ _ _ h=>h) (fun _=>rfl) (v:=?_) (fun w'=>?_) ?_
   rotate_left
   ·go_simp<;>rfl
   go_simp
   refine tkR 5 rfl rfl (by kernel_rfl) (fun _ _ _ h=>h) (fun _=>rfl) (v:=?_) (fun w' hb=>?_) ?_
   rotate_left
   ·obtain⟨g0,g1,g2,g3,g4,g5,g6,g7,g8,g9,j0,j1,j2,j3,j4,j5,j6,j7⟩:=F w' hb
    go_simp<;>rfl
   go_simp
   refine tkR 6 rfl rfl (by kernel_rfl) (fun _ _ _ h=>h) (fun _=>rfl) (v:=?_) (fun w' hb=>?_) ?_
   rotate_left
   ·obtain⟨g0,g1,g2,g3,g4,g5,g6,g7,g8,g9,j0,j1,j2,j3,j4,j5,j6,j7⟩:=F w' hb
    go_simp<;>rfl
   go_simp
   refine tkP 7 rfl rfl (by kernel_rfl) (fun _ _ _ h=>h) (fun _=>rfl) (v:=?_) (fun w'=>?_) ?_
   rotate_left
   ·go_simp<;>rfl
   go_simp
   refine tkP 8 rfl rfl (by kernel_rfl) (fun _ _ _ h=>h) (fun _=>rfl) (v:=?_) (fun w'=>?_) ?_
   rotate_left
   ·go_simp<;>rfl
   go_simp
   refine tkP 9 rfl rfl (by kernel_rfl) (fun _ _ _ h=>h) (fun _=>rfl) (v:=?_) (fun w'=>?_) ?_
   rotate_left
   ·go_simp<;>rfl
   go_simp
   refine tkR 10 rfl rfl (by kernel_rfl) (fun _ _ _ h=>h) (fun _=>rfl) (v:=?_) (fun w' hb=>?_) ?_
   rotate_left
   ·obtain⟨g0,g1,g2,g3,g4,g5,g6,g7,g8,g9,j0,j1,j2,j3,j4,j5,j6,j7⟩:=F w' hb
    go_simp<;>rfl
   go_simp
   clear F
   refine tpOne 11 rfl rfl (by kernel_rfl) fun K' hK'=>?_
   go_simp
   refine⟨trivial,hdd _,(callsIn_wide.2 ((jf (h0:=h0) (h:=h0) (p:=p) (hcx.iv hx) (hcy.iv hy)).run W1.drew (hh1.below (gt W1)) hg)).mono ?_⟩
   intro e W2 hP;obtain⟨u,h1,rfl,t1,t2,t3,t4,r⟩:=post_ret hP;clear hP
   obtain⟨p1,p2,p3,p4,p5,p6,p7,p8,p9,p10,p11,p12,p13,p14,p15,p16,e,rfl,r⟩:=r.sa
   refine hK' _ _ ⟨.inr (.inr t1),?_⟩
   clear hK' K'
   go_simp
   refine tkP 12 rfl rfl (by kernel_rfl) (fun _ _ _ h=>h) (fun _=>rfl) (v:=?_) (fun w'=>?_) ?_
   rotate_left
   ·go_simp<;>rfl
   go_simp
   refine tkP 13 rfl rfl (by kernel_rfl) (fun _ _ _ h=>h) (fun _=>rfl) (v:=?_) (fun w'=>?_) ?_
   rotate_left
   ·go_simp<;>rfl
   go_simp
   refine tkP 14 rfl rfl (by kernel_rfl) (fun _ _ _ h=>h) (fun _=>rfl) (v:=?_) (fun w'=>?_) ?_
   rotate_left
   ·go_simp<;>rfl
   go_simp
   refine tkP 15 rfl rfl (by kernel_rfl) (fun _ _ _ h=>h) (fun _=>rfl) (v:=?_) (fun w'=>?_) ?_
   rotate_left
   ·go_simp<;>rfl
   go_simp
   refine tkP 16 rfl rfl (by kernel_rfl) (fun _ _ _ h=>h) (fun _=>rfl) (v:=?_) (fun w'=>?_) ?_
   rotate_left
   ·go_simp<;>rfl
   go_simp
   have hb12:Below W1.heap.size W1 W2:=(gt W1).trans t1
   have hB2:=(hb12.block B (Array.getElem?_eq_some_iff.1 hB1).1).trans hB1
   refine tpOne 17 rfl rfl (by kernel_rfl) fun K' hK'=>?_
   refine wpIn_store_box (M:=mach) rfl B 1 [.bool p1,.slice p2 p3 p4,.slice p5 p6 p7,.bool p8,.slice p9 p10 p11,.slice p12 p13 p14,.bool p15,.bool p16] _ rfl (by go_simp<;>rfl) (by go_simp<;>rfl) htk rfl rfl hB2 (by simp) ?_
   intro W3 hW3 hg3
   refine hK' _ _ ⟨.inl rfl,?_⟩
   clear hK' K'
   go_simp
   refine tkP 18 rfl rfl (by kernel_rfl) (fun _ _ _ h=>h) (fun _=>rfl) (v:=?_) (fun w'=>?_) ?_
   rotate_left
   ·go_simp<;>rfl
   go_simp
   refine tkP 19 rfl rfl (by kernel_rfl) (fun _ _ _ h=>h) (fun _=>rfl) (v:=?_) (fun w'=>?_) ?_
   rotate_left
   ·go_simp<;>rfl
   go_simp
   refine tpOne 20 rfl rfl (by kernel_rfl) fun K' hK'=>?_
   refine wpIn_store_box (M:=mach) rfl B 9 [.int .i64 e] _ rfl (by go_simp<;>rfl) (by go_simp<;>rfl) htk1 rfl rfl hW3 (by simp[spl_len]) ?_
   intro W4 hW4 hg4
   refine hK' _ _ ⟨.inl rfl,?_⟩
   clear hK' K'
   go_simp
   refine doneB (by kernel_rfl) ?_ 0
   gi_wp2
   go_end0
   have n2:h1 B=none:=by
    cases ex:h1 B with
    |none=>rfl
    | some cs=>
     rcases t4 B (by rw[ex];simp) with k |k
     ·exact absurd hpv k
     ·have:=(Array.getElem?_eq_some_iff.1 hB1).1
      exact absurd k (by simpa using this)
   refine⟨⟨_,rfl⟩,((kx1.below hb12).put hg3 (.inr ⟨0,by decide,rfl⟩)).put hg4 (.inr ⟨0,by decide,rfl⟩),h1,t3,fun k hk=>(t4 k hk).imp id (fun q=>χ kx1.size q),(t2.kept hg3 (fun r e=>by cases e;exact n2)).kept hg4 (fun r e=>by cases e;exact n2),n2,p1,p2,p3,p4,p5,p6,p7,p8,p9,p10,p11,p12,p13,p14,p15,p16,e,T,hW4,?_⟩
   have r:Ir h1 _ (addE p x.ri y.ri):=r
   show SmR h1 _ e (addE p x.ri y.ri)
   cases hE:addE p x.ri y.ri with
   | error e'=>
    rw[hE] at r
    have r:(Value.tuple _:Value)=.tuple #[zIv,.int .i64 e']:=r
    simp at r
    exact⟨r.2,addE_nz _ hE⟩
   | ok z=>
    rw[hE] at r
    obtain⟨u,e1,k⟩:=r
    simp at e1
    obtain⟨rfl,rfl⟩:=e1
    exact⟨rfl,fin2_le hE,k⟩
end Go.Q
