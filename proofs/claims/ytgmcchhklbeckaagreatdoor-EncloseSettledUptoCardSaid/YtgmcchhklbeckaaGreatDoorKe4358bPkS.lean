/-
  The law of EnclosePoints, and what stands on it. Conditions: each theorem's own.
-/
import Derived.Test.YtgmcchhklbeckaaGreatDoorKf08e96PkG
import Derived.Test.YtgmcchhklbeckaaGreatDoorK3a8f22PkR
import Derived.Test.YtgmcchhklbeckaaGreatDoorK91bd4fPkQ
import Derived.Test.YtgmcchhklbeckaaGreatDoorKdab1e0PkO
import Derived.Test.YtgmcchhklbeckaaGreatDoorKd810e4PkN
import Derived.Test.YtgmcchhklbeckaaGreatDoorKe1901fPkI
set_option linter.unusedVariables false
set_option linter.unusedSimpArgs false
open Nat renaming reduceBEq→ξ,reduceAdd→ζ,le_refl→η,zero_le→qBh,lt_or_ge→qBj
open Bool renaming and_eq_true→φ
namespace Go.Q
open Go.Proofs
set_option maxRecDepth 100000
set_option maxHeartbeats 8000000
theorem Pbx.to {h h':PH} {v:Value} {l:List (ByteArray×Rat)} (r:Pbx h v l) [t:Le h h']:Pbx h' v l:=by
 obtain⟨a,c,rfl,k⟩:=r
 refine⟨a,c,rfl,fun i s hi=>?_⟩
 obtain⟨ad,cs,h1,⟨ds,e1,e2,e3⟩,h3⟩:=k i s hi
 exact⟨ad,cs,h1,⟨ds,e1,e2,e3.to⟩,fun j v hj=>t.sub.at (h3 j v hj)⟩
def atOk (b:List Sd1) (p:List Pv1):Bool:=okB b && (okP p && inB b p)
def AtR (h:PH) (r:Value) (b:List Sd1) (p:List Pv1) (l:List (ByteArray×Rat)):Prop:=match atOk b p with
 |true=>∃u,r=.tuple #[u,.int .i64 0]∧Pbx h u l
 |false=>r=.tuple #[.slice none 0 0,.int .i64 50]
theorem inB_len {b:List Sd1} {p:List Pv1} (h:inB b p=true):p.length=b.length:=by
 unfold inB at h
 rw[φ] at h
 exact of_decide_eq_true h.1
theorem okB_six {b:List Sd1} (h:okB b=true):b.length≤6:=by
 unfold okB at h
 rw[φ] at h
 exact of_decide_eq_true h.1
theorem At_p {h0 h:PH} [Le h0 h] {v w:Value} {b:List Sd1} {p:List Pv1} (hv:Boxv h0 v b) (hw:Ptv h0 w p):Spec mach 13 #[v,w] h (fun r h'=>AtR h' r b p (p.map nq)) NP:=by
 have kV:=fun {h} [Le h0 h]=>BValid_spec (h:=h) hv
 have kP:=fun {h} [Le h0 h]=>IsPoint_spec (h:=h) hw
 have kI:=fun(g1:okB b=true) (g2:okP p=true) {h} [Le h0 h]=>InBox_p (h:=h) hv hw g1 g2
 have kA:=fun(g1:okB b=true) (g2:okP p=true) (g3:inB b p=true) {h} [Le h0 h]=>PointBox_spec (h:=h) hw g2 (by have:=inB_len g3;have:=okB_six g1;omega)
 unfold AtR atOk
 obtain⟨_,_,_,rfl⟩:=hv.sa
 obtain⟨_,_,_,rfl⟩:=hw.sa
 cases g1:okB b with
 | false=>
  rw[g1] at kV
  refine Spec.go [] Tryz.func13 rfl rfl (by kernel_rfl) fun C _=>?_
  try simp(maxSteps:=999999) (disch:=omega) only[go_sem,ξ,ζ]
  refine caN (by exact kV) ?_;rintro v1 h1 s1 rfl
  try simp(maxSteps:=999999) (disch:=omega) only[go_sem,ξ,ζ]
  all_goals exact trivial
 | true=>
  rw[g1] at kV
  cases g2:okP p with
  | false=>
   rw[g2] at kP
   refine Spec.go [] Tryz.func13 rfl rfl (by kernel_rfl) fun C _=>?_
   try simp(maxSteps:=999999) (disch:=omega) only[go_sem,ξ,ζ]
   refine caN (by exact kV) ?_;rintro v1 h1 s1 rfl
   try simp(maxSteps:=999999) (disch:=omega) only[go_sem,ξ,ζ]
   refine caN (by exact kP) ?_;rintro v2 h2 s2 rfl
   try simp(maxSteps:=999999) (disch:=omega) only[go_sem,ξ,ζ]
   all_goals exact trivial
  | true=>
   rw[g2] at kP
   have kI:=fun {h} [Le h0 h]=>kI g1 g2 (h:=h)
   cases g3:inB b p with
   | false=>
    rw[g3] at kI
    refine Spec.go [] Tryz.func13 rfl rfl (by kernel_rfl) fun C _=>?_
    try simp(maxSteps:=999999) (disch:=omega) only[go_sem,ξ,ζ]
    refine caN (by exact kV) ?_;rintro v1 h1 s1 rfl
    try simp(maxSteps:=999999) (disch:=omega) only[go_sem,ξ,ζ]
    refine caN (by exact kP) ?_;rintro v2 h2 s2 rfl
    try simp(maxSteps:=999999) (disch:=omega) only[go_sem,ξ,ζ]
    refine caN (by exact kI) ?_;rintro v3 h3 s3 rfl
    try simp(maxSteps:=999999) (disch:=omega) only[go_sem,ξ,ζ]
    all_goals exact trivial
   | true=>
    rw[g3] at kI
    refine Spec.go [] Tryz.func13 rfl rfl (by kernel_rfl) fun C _=>?_
    try simp(maxSteps:=999999) (disch:=omega) only[go_sem,ξ,ζ]
    refine caN (by exact kV) ?_;rintro v1 h1 s1 rfl
    try simp(maxSteps:=999999) (disch:=omega) only[go_sem,ξ,ζ]
    refine caN (by exact kP) ?_;rintro v2 h2 s2 rfl
    try simp(maxSteps:=999999) (disch:=omega) only[go_sem,ξ,ζ]
    refine caN (by exact kI) ?_;rintro v3 h3 s3 rfl
    try simp(maxSteps:=999999) (disch:=omega) only[go_sem,ξ,ζ]
    refine caN (by exact kA g1 g2 g3) ?_;rintro v4 h4 s4 ⟨u,rfl,q4⟩;obtain⟨_,_,rfl,q5⟩:=q4
    try simp(maxSteps:=999999) (disch:=omega) only[go_sem,ξ,ζ]
    exact⟨_,rfl,_,_,rfl,q5⟩
end Go.Q
namespace Go.Q
open Go.Proofs Go.RowKit
attribute [local go_sem] Oper.semAt_some
set_option maxRecDepth 100000
set_option maxHeartbeats 16000000
def Qv (h:PH) (cs:List Value) (z:NS):Prop:=ivC cs∧Cv h (.agg cs.toArray) z∧z.le 2048
theorem qv_up (a b:PH) (hs:Sub a b) (cs:List Value) (s:NS) (q:Qv a cs s):Qv b cs s:=by
 haveI:Le a b:=⟨hs⟩
 exact⟨q.1,q.2.1.to,q.2.2⟩
end Go.Q
namespace Go.Q
open Go.Proofs Go.RowKit
set_option maxRecDepth 100000
set_option maxHeartbeats 8000000
theorem outfin_le {o:Out} {z:NS} (h:o.fin=.ok z):z.le 2048:=by
 cases o with
 |error e=>cases h
 | ok w=>
  unfold Out.fin at h
  dsimp only at h
  cases e2:decide (w.le 2048) with
  |false=>rw[e2] at h;cases h
  |true=>rw[e2] at h;cases h;exact of_decide_eq_true e2
theorem opO_le {op:Nat} {x y:RI} {n p:Int} {z:NS} (h:opO op x y n p=.ok z):z.le 2048:=by
 unfold opO at h
 split at h
 all_goals first |exact fin2_le h |exact fin_le h
theorem ev_le {B:ByteArray→RI} {p:Int}:∀{e:Exq} {z:NS},evX B p e=.ok z→z.le 2048
 |.no,z,h=>by cases h;rfl
 | .mk op arg num name n kid,z,h=>by
  unfold evX at h
  split at h
  ·unfold leafE at h
   split at h
   ·split at h
    ·cases h
    ·exact fin_le h
   ·split at h
    ·exact fin_le h
    ·exact outfin_le h
  ·split at h
   ·cases h
   ·unfold nodE at h
    repeat' split at h
    all_goals first |exact fin_le h |exact opO_le h
theorem outfin_enz {o:Out} (h:Enz o):Enz o.fin:=fun e he=>by
 cases o with
 |error e'=>cases he;exact h _ rfl
 |ok z=>rcases AW z with k |k<;>rw[k] at he<;>cases he;decide
theorem fin_enz {x:RI} {o:Out} (h:Enz o):Enz (x.fin o):=fun e he=>by
 unfold RI.fin at he
 cases g:x.big with
 |true=>rw[g] at he;cases he;decide
 |false=>rw[g,cond_false] at he;exact outfin_enz h e he
theorem ok_enz {z:NS}:Enz (.ok z):=fun e h=>by cases h
theorem powR_enz {n p:Int} {x:NS}:Enz (powR n p x):=fun e he=>by
 unfold powR at he
 cases gn:badn n with
 |true=>rw[gn] at he;cases he;decide
 | false=>
  rw[gn,cond_false] at he
  refine prec_nz (fun e he=>?_) e he
  unfold hullO powO at he
  cases g1:x.void with
  |true=>rw[g1] at he;cases he
  | false=>
   rw[g1,cond_false] at he
   by_cases g2:n < 0
   ·rw[if_pos g2] at he
    cases g3:x.zero<;>rw[g3] at he<;>cases he;decide
   ·rw[if_neg g2] at he;cases he
theorem opO_enz {op:Nat} {x y:RI} {n p:Int} (ho:op < 7):Enz (opO op x y n p):=
 match op,ho with
 |0,_=>addE_nz
 |1,_=>subE_nz
 |2,_=>mulE_nz
 |3,_=>divE_nz
 |4,_=>fin2_nz ok_enz
 |5,_=>fin2_nz ok_enz
 |6,_=>fin_enz powR_enz
theorem ev_nz {B:ByteArray→RI} {p:Int}:∀{e:Exq},Enz (evX B p e)
 |.no=>ok_enz
 | .mk op arg num name n kid=>by
  intro e h
  unfold evX at h
  split at h
  ·unfold leafE at h
   split at h
   ·split at h
    ·rename_i hp;cases h;exact ptE_nz hp
    ·exact fin_enz (prec_nz ok_enz) e h
   ·split at h
    ·exact fin_enz (prec_nz ok_enz) e h
    ·exact outfin_enz ok_enz e h
  ·split at h
   ·rename_i hk
    cases h
    obtain⟨i,l,_,_,hf⟩:=kidsO_fst hk
    exact ev_nz (e:=kid i) _ hf
   ·unfold nodE at h
    repeat' split at h
    all_goals first |exact fin_enz ok_enz e h |exact opO_enz (by decide) e h
theorem Comb_spec {h0 h:PH} [l0:Le h0 h] {ev:Value} {op arg p:Int} {num:Bool×Nat×Nat} {name:ByteArray} {a:Option Addr} {n c b1 b2:Nat} {kid:Nat→Exq} {f:Nat→Out}
  (he:Ndv h0 ev op arg num name a n c) (hk:∀i,i < n→∃(ad:Addr) (cs:List Value),a=some ad∧cs.length=7∧(∀(j:Nat) u,cs[j]?=some u→h0.at ((ad.add (i*7)).add j)=some u)∧Xv h0 (kid i) (.agg cs.toArray)) (hn:kdE op=some n) (hn0:n≠0) (hwo:op≠10∧op≠11∧op≠15)
  (kK:∀i,i < n→∀{h:PH} [Le h0 h] {kv:Value},Xv h0 (kid i) kv→Spec mach 57 #[kv,.pointer (some ⟨b1,0,none⟩),.pointer (some ⟨b2,0,none⟩)] h (fun r h'=>Ir h' r (f i)) NP) (hfl:∀i z,f i=.ok z→z.le 2048) (hfz:∀i,Enz (f i)):
  Spec mach 56 #[ev,.int .i64 p,.func (.func 57) #[] #[.pointer (some ⟨b1,0,none⟩),.pointer (some ⟨b2,0,none⟩)]] h (fun r h'=>Ir h' r (match kidsO f n with |.error e=>.error e |.ok l=>nodE p op arg l)) NP:=by
 obtain⟨a1,m1,c1,a2,m2,c2,rfl,_⟩:=he
 have f15:(op == 15)=false:=by simpa using hwo.2.2
 have hn2:n≤2:=by
  unfold kdE at hn
  repeat' split at hn
  all_goals first |(cases hn;omega) |cases hn
 refine Spec.go [(10,.x),(18,.o [0,1,2,3,4,5,6,7,8,9,10]),(20,.o [0,1,2,3,4,5,6,7,8,9,10]),(22,.o [0,1,2,3,4,5,6,7,8,9,10,11]),(24,.o [0,1,2,3,4,5,6,7,8,9,10,11]),(26,.o [0,1,2,3,4,5,6,7,8,9,10,11]),(28,.o [0,1,2,3,4,5,6,7,8,9,10,11]),(30,.o [0,1,2,3,4,5,6,7,8,9,10])] Tryz.func56 rfl rfl (by kernel_rfl) fun C _=>?_
 try simp(disch:=omega) only[go_sem,ξ,ζ,f15]
 refine lpSl [(10,.x),(18,.o [0,1,2,3,4,5,6,7,8,9,10]),(20,.o [0,1,2,3,4,5,6,7,8,9,10]),(22,.o [0,1,2,3,4,5,6,7,8,9,10,11]),(24,.o [0,1,2,3,4,5,6,7,8,9,10,11]),(26,.o [0,1,2,3,4,5,6,7,8,9,10,11]),(28,.o [0,1,2,3,4,5,6,7,8,9,10,11]),(30,.o [0,1,2,3,4,5,6,7,8,9,10])] (fun x:Option (Nat×Nat×List Value)=>match x with |none=>⟨[(1,.v (.int .i64 p)),(2,.v (.func (.func 57) #[] #[.pointer (some ⟨b1,0,none⟩),.pointer (some ⟨b2,0,none⟩)])),(3,.p 0 0),(6,.p 1 0),(7,.v (.int .i64 0)),(22,.v (.slice a n c)),(23,.v (.int .i64 n)),(8,.v (.slice none 0 0)),(24,.v (.int .i64 0))],[[.int .i64 op,.int .i64 arg,.bool num.1,.slice a1 m1 c1,.slice a2 m2 c2,.string name,.slice a n c],[.bool false,.slice none 0 0,.slice none 0 0,.bool false,.slice none 0 0,.slice none 0 0,.bool false,.bool false]]⟩ |some x=>⟨[(1,.v (.int .i64 p)),(2,.v (.func (.func 57) #[] #[.pointer (some ⟨b1,0,none⟩),.pointer (some ⟨b2,0,none⟩)])),(3,.p 0 0),(6,.p 1 0),(7,.v (.int .i64 0)),(22,.v (.slice a n c)),(23,.v (.int .i64 n)),(8,.s 2 0 x.1 x.2.1),(24,.v (.int .i64 x.1))],[[.int .i64 op,.int .i64 arg,.bool num.1,.slice a1 m1 c1,.slice a2 m2 c2,.string name,.slice a n c],[.bool false,.slice none 0 0,.slice none 0 0,.bool false,.slice none 0 0,.slice none 0 0,.bool false,.bool false],x.2.2]⟩) (fun x h'=>Le h0 h'∧match x with |none=>True |some x=>1≤x.1∧x.1≤n∧x.1≤x.2.1∧x.2.1*8=x.2.2.length∧∃zs,kidsO f x.1=.ok zs∧RowOf 8 (Qv h') x.2.2 zs) (fun x=>match x with |none=>n |some x=>n - x.1) none [0,1] ?_ ⟨inferInstance,trivial⟩ (by kernel_rfl) ?_
 ·try simp(disch:=omega) only[go_sem,ξ,ζ]
  all_goals rfl
 rintro(_ |⟨i,cap,row⟩) h2 ⟨le2,hr⟩
 ·have hl:(0:Int) < (n:Int):=by omega
  dsimp only
  obtain⟨ad,cs,rfl,hlen,hat,hkid⟩:=hk 0 (by omega)
  obtain⟨y1,y2,y3,y4,y5,y6,y7,y8,y9,y10,y11,y12,y13,rfl⟩:=hkid.cs
  have kN:=fun {h} [Le h0 h]=>kK 0 (by omega) (h:=h) hkid
  try simp(disch:=omega) only[go_sem,ξ,ζ,hl,decide_true]
  refine Exists.intro [_,_,_,_,_,_,_] (And.intro rfl (And.intro (fun j u hj=>le2.sub.at (hat j u hj)) ?_))
  try simp(disch:=omega) only[go_sem,ξ,ζ]
  have hz0:kidsO f 0=.ok []:=rfl
  cases hf:f 0 with
  | error e=>
   rw[hf] at kN
   have hz:=hfz 0 e hf
   have he2:(e != 0)=true:=by simpa using hz
   rw[show kidsO f n=.error e by have:=kidsO_err (kidsO_next hz0 hf) (n - 1);rwa[show 0+1+(n - 1)=n by omega] at this]
   unfold Ir zIv at kN
   refine caN (by exact kN) ?_;rintro r h3 s3 rfl
   try simp(disch:=omega) only[go_sem,ξ,ζ,he2]
   all_goals rfl
  | ok z=>
   rw[hf] at kN
   refine caN (by exact kN) ?_;rintro r h3 s3 r3;obtain⟨u,rfl,c3⟩:=r3;obtain⟨x1,x2,x3,x4,x5,x6,x7,x8,x9,x10,x11,x12,x13,x14,x15,x16,rfl,c3⟩:=c3.sa
   try simp(disch:=omega) only[go_sem,ξ,ζ]
   refine AWP_app (sz:=8) [.o 0,.o 1,.o 2] 3 [.o 4] rfl (by kernel_rfl) (by kernel_rfl) (by rfl) (by decide) rfl rfl ?_
   try simp(disch:=omega) only[go_sem,ξ,ζ,walk,appN,Nat.reduceMul]
   intro cap junk hc hj
   have hR:RowOf 8 (Qv h3) ([.bool x1,.slice x2 x3 x4,.slice x5 x6 x7,.bool x8,.slice x9 x10 x11,.slice x12 x13 x14,.bool x15,.bool x16] ++junk) ([] ++[z]):=(RowOf.nil (sz:=8) (Q:=Qv h3) (row:=[])).app (cs:=[.bool x1,.slice x2 x3 x4,.slice x5 x6 x7,.bool x8,.slice x9 x10 x11,.slice x12 x13 x14,.bool x15,.bool x16]) (s:=z) rfl ⟨⟨_,_,_,_,_,_,_,_,_,_,_,_,_,_,_,_,rfl⟩,c3,hfl 0 z hf⟩ junk
   dsimp only[lpS]
   refine⟨some (1,cap,[.bool x1,.slice x2 x3 x4,.slice x5 x6 x7,.bool x8,.slice x9 x10 x11,.slice x12 x13 x14,.bool x15,.bool x16] ++junk),[0,1,5],?_,⟨inferInstance,η 1,by show 1≤n;omega,hc,by simp;omega,_,kidsO_ok hz0 hf,hR⟩,by show n - 1 < n;omega⟩
   try simp(disch:=omega) only[go_sem,ξ,ζ]
   all_goals rfl
 ·obtain⟨g1,g2,g3,g4,zs,hzs,g5⟩:=hr
  dsimp only at g1 g2 g3 g4 hzs g5 ⊢
  have hzl:=kidsO_len hzs
  by_cases hl:(i:Int) < (n:Int)
  ·obtain⟨ad,cs,rfl,hlen,hat,hkid⟩:=hk i (by omega)
   obtain⟨y1,y2,y3,y4,y5,y6,y7,y8,y9,y10,y11,y12,y13,rfl⟩:=hkid.cs
   have kN:=fun {h} [Le h0 h]=>kK i (by omega) (h:=h) hkid
   try simp(disch:=omega) only[go_sem,ξ,ζ,hl,decide_true]
   refine Exists.intro [_,_,_,_,_,_,_] (And.intro rfl (And.intro (fun j u hj=>le2.sub.at (hat j u hj)) ?_))
   try simp(disch:=omega) only[go_sem,ξ,ζ]
   cases hf:f i with
   | error e=>
    rw[hf] at kN
    have hz:=hfz i e hf
    have he2:(e != 0)=true:=by simpa using hz
    rw[show kidsO f n=.error e by have:=kidsO_err (kidsO_next hzs hf) (n - (i+1));rwa[show i+1+(n - (i+1))=n by omega] at this]
    unfold Ir zIv at kN
    refine caN (by exact kN) ?_;rintro r h3 s3 rfl
    try simp(disch:=omega) only[go_sem,ξ,ζ,he2]
    all_goals rfl
   | ok z=>
    rw[hf] at kN
    refine caN (by exact kN) ?_;rintro r h3 s3 r3;obtain⟨u,rfl,c3⟩:=r3;obtain⟨x1,x2,x3,x4,x5,x6,x7,x8,x9,x10,x11,x12,x13,x14,x15,x16,rfl,c3⟩:=c3.sa
    try simp(disch:=omega) only[go_sem,ξ,ζ]
    refine AWP_app (sz:=8) [.o 0,.o 1,.o 2] 3 [.o 4] rfl (by kernel_rfl) (by kernel_rfl) (by rfl) (by decide) rfl rfl ?_
    try simp(disch:=omega) only[go_sem,ξ,ζ,walk,appN,Nat.reduceMul]
    intro cap' junk hc hj
    have hR:RowOf 8 (Qv h3) (row.take (i*8) ++[.bool x1,.slice x2 x3 x4,.slice x5 x6 x7,.bool x8,.slice x9 x10 x11,.slice x12 x13 x14,.bool x15,.bool x16] ++junk) (zs ++[z]):=by
     have:=(g5.mono fun cs s (q:Qv h2 cs s)=>qv_up _ _ s3.sub cs s q).app (cs:=[.bool x1,.slice x2 x3 x4,.slice x5 x6 x7,.bool x8,.slice x9 x10 x11,.slice x12 x13 x14,.bool x15,.bool x16]) (s:=z) rfl ⟨⟨_,_,_,_,_,_,_,_,_,_,_,_,_,_,_,_,rfl⟩,c3,hfl i z hf⟩ junk
     rwa[hzl] at this
    dsimp only[lpS]
    refine⟨some (i+1,cap',row.take (i*8) ++[.bool x1,.slice x2 x3 x4,.slice x5 x6 x7,.bool x8,.slice x9 x10 x11,.slice x12 x13 x14,.bool x15,.bool x16] ++junk),[0,1,6],?_,⟨inferInstance,by show 1≤i+1;omega,by show i+1≤n;omega,hc,by simp;omega,_,kidsO_ok hzs hf,hR⟩,by show n - (i+1) < n - i;omega⟩
    try simp(disch:=omega) only[go_sem,ξ,ζ]
    all_goals rfl
  ·obtain rfl:i=n:=by omega
   rw[hzs]
   dsimp only
   have hc :(i=1∧(op=4∨op=9∨op=12))∨(i=2∧(op=5∨op=6∨op=7∨op=8∨op=13∨op=14)):=by
    unfold kdE at hn
    split at hn
    ·cases hn;exact absurd rfl hn0
    ·split at hn
     ·cases hn;exact .inl ⟨rfl,by omega⟩
     ·split at hn
      ·cases hn;exact .inr ⟨rfl,by omega⟩
      ·split at hn
       ·omega
       ·cases hn
   rcases hc with⟨rfl,hop⟩ |⟨rfl,hop⟩
   ·obtain⟨z0,rfl⟩:∃z0,zs=[z0]:=by
     match zs,hzl with
     |[z0],_=>exact⟨_,rfl⟩
    have c1:Qv h2 (List.take 8 (List.drop (0*8) row)) z0:=g5.2 0 z0 rfl
    rcases hop with hop |hop |hop
    ·have kA:=fun {h} [Le h2 h]=>wW (h:=h) (c1.2.1.iv c1.2.2)
     try simp(disch:=omega) only[go_sem,ξ,ζ,hl,decide_false,hop]
     refine caN (by exact kA) ?_;rintro r h3 s3 r3;obtain⟨_,_,_,_,_,_,_,_,_,_,_,_,_,_,_,_,_,rfl,r3⟩:=r3.sa
     try simp(disch:=omega) only[go_sem,ξ,ζ]
     all_goals exact r3
    ·have kA:=fun {h} [Le h2 h]=>ul (h:=h) (n:=arg) (p:=p) (c1.2.1.iv c1.2.2)
     try simp(disch:=omega) only[go_sem,ξ,ζ,hl,decide_false,hop]
     refine caN (by exact kA) ?_;rintro r h3 s3 r3;obtain⟨_,_,_,_,_,_,_,_,_,_,_,_,_,_,_,_,_,rfl,r3⟩:=r3.sa
     try simp(disch:=omega) only[go_sem,ξ,ζ]
     all_goals exact r3
    ·have kA:=fun {h} [Le h2 h]=>wK (h:=h) (c1.2.1.iv c1.2.2)
     try simp(disch:=omega) only[go_sem,ξ,ζ,hl,decide_false,hop]
     refine caN (by exact kA) ?_;rintro r h3 s3 r3;obtain⟨_,_,_,_,_,_,_,_,_,_,_,_,_,_,_,_,_,rfl,r3⟩:=r3.sa
     try simp(disch:=omega) only[go_sem,ξ,ζ]
     all_goals exact r3
   ·obtain⟨z0,z1,rfl⟩:∃z0 z1,zs=[z0,z1]:=by
     match zs,hzl with
     |[z0,z1],_=>exact⟨_,_,rfl⟩
    have c1:Qv h2 (List.take 8 (List.drop (0*8) row)) z0:=g5.2 0 z0 rfl
    have c2:Qv h2 (List.take 8 (List.drop (Int.toNat 1*8) row)) z1:=g5.2 1 z1 rfl
    rcases hop with hop |hop |hop |hop |hop |hop
    ·have kA:=fun {h} [Le h2 h]=>jf (h:=h) (p:=p) (c1.2.1.iv c1.2.2) (c2.2.1.iv c2.2.2)
     try simp(disch:=omega) only[go_sem,ξ,ζ,hl,decide_false,hop]
     refine caN (by exact kA) ?_;rintro r h3 s3 r3;obtain⟨_,_,_,_,_,_,_,_,_,_,_,_,_,_,_,_,_,rfl,r3⟩:=r3.sa
     try simp(disch:=omega) only[go_sem,ξ,ζ]
     all_goals exact r3
    ·have kA:=fun {h} [Le h2 h]=>qA (h:=h) (p:=p) (c1.2.1.iv c1.2.2) (c2.2.1.iv c2.2.2)
     try simp(disch:=omega) only[go_sem,ξ,ζ,hl,decide_false,hop]
     refine caN (by exact kA) ?_;rintro r h3 s3 r3;obtain⟨_,_,_,_,_,_,_,_,_,_,_,_,_,_,_,_,_,rfl,r3⟩:=r3.sa
     try simp(disch:=omega) only[go_sem,ξ,ζ]
     all_goals exact r3
    ·have kA:=fun {h} [Le h2 h]=>gH (h:=h) (p:=p) (c1.2.1.iv c1.2.2) (c2.2.1.iv c2.2.2)
     try simp(disch:=omega) only[go_sem,ξ,ζ,hl,decide_false,hop]
     refine caN (by exact kA) ?_;rintro r h3 s3 r3;obtain⟨_,_,_,_,_,_,_,_,_,_,_,_,_,_,_,_,_,rfl,r3⟩:=r3.sa
     try simp(disch:=omega) only[go_sem,ξ,ζ]
     all_goals exact r3
    ·have kA:=fun {h} [Le h2 h]=>mH (h:=h) (p:=p) (c1.2.1.iv c1.2.2) (c2.2.1.iv c2.2.2)
     try simp(disch:=omega) only[go_sem,ξ,ζ,hl,decide_false,hop]
     refine caN (by exact kA) ?_;rintro r h3 s3 r3;obtain⟨_,_,_,_,_,_,_,_,_,_,_,_,_,_,_,_,_,rfl,r3⟩:=r3.sa
     try simp(disch:=omega) only[go_sem,ξ,ζ]
     all_goals exact r3
    ·have kA:=fun {h} [Le h2 h]=>CA (h:=h) (c1.2.1.iv c1.2.2) (c2.2.1.iv c2.2.2)
     try simp(disch:=omega) only[go_sem,ξ,ζ,hl,decide_false,hop]
     refine caN (by exact kA) ?_;rintro r h3 s3 r3;obtain⟨_,_,_,_,_,_,_,_,_,_,_,_,_,_,_,_,_,rfl,r3⟩:=r3.sa
     try simp(disch:=omega) only[go_sem,ξ,ζ]
     all_goals exact r3
    ·have kA:=fun {h} [Le h2 h]=>Co (h:=h) (c1.2.1.iv c1.2.2) (c2.2.1.iv c2.2.2)
     try simp(disch:=omega) only[go_sem,ξ,ζ,hl,decide_false,hop]
     refine caN (by exact kA) ?_;rintro r h3 s3 r3;obtain⟨_,_,_,_,_,_,_,_,_,_,_,_,_,_,_,_,_,rfl,r3⟩:=r3.sa
     try simp(disch:=omega) only[go_sem,ξ,ζ]
     all_goals exact r3
theorem EKid_spec {h0 h:PH} [Le h0 h] {e:Exq} {kv v:Value} {b1 b2:Nat} {l:List Sd1} {p:Int} (he:Xv h0 e kv) (hv:Boxv h0 v l) (hb1:h0 b1=some #[v]) (hb2:h0 b2=some #[.int .i64 p])
  (kE:∀{h:PH} [Le h0 h],Spec mach 23 #[kv,v,.int .i64 p] h (fun r h'=>Ir h' r (evX (bxF l) p e)) NP):Spec mach 57 #[kv,.pointer (some ⟨b1,0,none⟩),.pointer (some ⟨b2,0,none⟩)] h (fun r h'=>Ir h' r (evX (bxF l) p e)) NP:=by
 have hb1:=(inferInstance:Le h0 h).sub _ _ hb1
 have hb2:=(inferInstance:Le h0 h).sub _ _ hb2
 generalize evX (bxF l) p e=o at*
 obtain _ |⟨op,arg,num,name,n,kid⟩:=e
 ·exact he.elim
 obtain⟨a,c,⟨_,_,_,_,_,_,rfl,_⟩,_⟩:=he
 obtain⟨_,_,_,rfl⟩:=hv.sa
 refine Spec.go [] Tryz.func57 rfl rfl (by kernel_rfl) fun C _=>?_
 try simp(disch:=omega) only[go_sem,ξ,ζ]
 refine aE (aK hb1) ?_
 try simp(disch:=omega) only[go_sem,ξ,ζ]
 refine aE (aK hb2) ?_
 try simp(disch:=omega) only[go_sem,ξ,ζ]
 refine caN (by exact kE) ?_;rintro r h2 s2 r2;obtain⟨_,_,_,_,_,_,_,_,_,_,_,_,_,_,_,_,_,rfl,r2⟩:=r2.sa
 try simp(disch:=omega) only[go_sem,ξ,ζ]
 all_goals exact r2
theorem Eval_spec (e:Exq):∀{h0 h:PH} [Le h0 h] {ev v:Value} {l:List Sd1} {p:Int},Xv h0 e ev→Boxv h0 v l→bad p=false→valX e→woX e→Spec mach 23 #[ev,v,.int .i64 p] h (fun r h'=>Ir h' r (evX (bxF l) p e)) NP:=by
 induction e with
 |no=>exact fun he=>he.elim
 | mk op arg num name n kid ih=>
  intro h0 h _ ev v l p he hv gp hva hwo
  have hv0:=hv
  obtain⟨_,_,_,rfl⟩:=hv.sa
  have he0:=he
  obtain⟨a,c,hnd,hn30,hk⟩:=he
  have hnd0:=hnd
  obtain⟨a1,m1,c1,a2,m2,c2,rfl,_⟩:=hnd
  by_cases hn:n=0
  ·subst hn
   have kL:=fun {h} [Le h0 h]=>Leaf_spec (h:=h) (p:=p) hnd0 hv0 gp
   rw[show evX (bxF l) p (.mk op arg num name 0 kid)=leafE (bxF l) p op num name by unfold evX;rw[if_pos rfl]]
   refine Spec.go [] Tryz.func23 rfl rfl (by kernel_rfl) fun C _=>?_
   try simp(disch:=omega) only[go_sem,ξ,ζ]
   refine caN (by exact kL) ?_;rintro r h2 s2 r2;obtain⟨_,_,_,_,_,_,_,_,_,_,_,_,_,_,_,_,_,rfl,r2⟩:=r2.sa
   try simp(disch:=omega) only[go_sem,ξ,ζ]
   all_goals exact r2
  ·have hn':((n:Int) == 0)=false:=by simp;omega
   rw[show evX (bxF l) p (.mk op arg num name n kid)=(match kidsO (fun i=>evX (bxF l) p (kid i)) n with |.error e=>.error e |.ok l=>nodE p op arg l) by rw[evX,if_neg hn];cases kidsO (fun i=>evX (bxF l) p (kid i)) n<;>rfl]
   refine Spec.go [(3,.t (.s [0,1] (.p 1 (.p 2 (.s [2,3,4,5,6,7] .d)))))] Tryz.func23 rfl rfl (by kernel_rfl) fun C _=>?_
   try simp(disch:=omega) only[go_sem,ξ,ζ,hn']
   intro b1 h1 st1 hb1
   try simp(disch:=omega) only[go_sem,ξ,ζ]
   intro b2 h2 st2 hb2
   try simp(disch:=omega) only[go_sem,ξ,ζ]
   have hb1:=st2.sub _ _ (hb1 (by simp))
   have hb2:=hb2 (by simp)
   have kC2:=fun {h} [Le h2 h]=>Comb_spec (h:=h) (p:=p) (f:=fun i=>evX (bxF l) p (kid i)) (hnd0.to (h':=h2)) (fun i hi=>by
    obtain⟨ad,cs,e,hl,hat,hk'⟩:=hk i hi
    exact⟨ad,cs,e,hl,fun j u hj=>(inferInstance:Le h0 h2).sub.at (hat j u hj),hk'.to⟩) hva.1 hn hwo.1 (fun i hi {h} _ {kv} hkv=>EKid_spec (h0:=h2) hkv (hv0.to (h':=h2)) hb1 hb2 (fun {h} _=>ih i hkv (hv0.to (h':=h2)) gp (hva.2 i hi) (hwo.2 i hi))) (fun i z hz=>ev_le hz) (fun i=>ev_nz)
   refine caN (by exact kC2) ?_;rintro r h3 s3 r3;obtain⟨_,_,_,_,_,_,_,_,_,_,_,_,_,_,_,_,_,rfl,r3⟩:=r3.sa
   try simp(disch:=omega) only[go_sem,ξ,ζ]
   all_goals exact r3
end Go.Q
namespace Go.Q
open Go.Proofs Go.RowKit
set_option maxRecDepth 100000
set_option maxHeartbeats 8000000
def Rdy (ve:Bool) (l:List Sd1) (p:Int) (e:Exq):Prop:=ve=true∧okB l=true∧bad p=false∧∀nm:ByteArray,((2:Int),nm)∈nodesL e→fnd l nm≠none
theorem ReadyX_spec {h0 h:PH} [Le h0 h] {e:Exq} {ev v:Value} {l:List Sd1} {p:Int} {ve:Bool} (he:Xv h0 e ev) (hv:Boxv h0 v l) (hve:ve=true→nmOk e∧(nodesL e).length≤300)
  (kE:∀{h:PH} [Le h0 h],Spec mach 52 #[ev] h (fun r _=>r=.bool ve) NP):Spec mach 22 #[ev,v,.int .i64 p] h (fun r _=>∃k:Int,r=.int .i64 k∧(k=0↔Rdy ve l p e)) NP:=by
 have kB:=fun {h} [Le h0 h]=>BValid_spec (h:=h) hv
 have kI:=fun {s} {h} [Le h0 h]=>Index_spec (h:=h) (s:=s) hv
 cases ve with
 | false=>
  obtain _ |⟨op,arg,num,name,n,kid⟩:=e
  ·exact he.elim
  obtain⟨a,c,⟨a1,m1,c1,a2,m2,c2,rfl,_⟩,_⟩:=he
  obtain⟨va,vm,vc,rfl⟩:=hv.sa
  refine Spec.go [] Tryz.func22 rfl rfl (by kernel_rfl) fun C _=>?_
  try simp(disch:=omega) only[go_sem,ξ,ζ]
  refine caN (by exact kE) ?_;rintro v1 h1 s1 rfl
  try simp(disch:=omega) only[go_sem,ξ,ζ]
  exact⟨_,rfl,iff_of_false (by decide) (fun q=>by have:=q.1;cases this)⟩
 | true=>
  obtain⟨n1,n2⟩:=hve rfl
  have kN:=fun {h} [Le h0 h]=>VarsX_spec (h:=h) he n1 n2 kE
  obtain _ |⟨op,arg,num,name,n,kid⟩:=e
  ·exact he.elim
  obtain⟨a,c,⟨a1,m1,c1,a2,m2,c2,rfl,_⟩,_⟩:=he
  obtain⟨va,vm,vc,rfl⟩:=hv.sa
  cases hB:okB l with
  | false=>
   rw[hB] at kB
   refine Spec.go [] Tryz.func22 rfl rfl (by kernel_rfl) fun C _=>?_
   try simp(disch:=omega) only[go_sem,ξ,ζ]
   refine caN (by exact kE) ?_;rintro v1 h1 s1 rfl
   try simp(disch:=omega) only[go_sem,ξ,ζ]
   refine caN (by exact kB) ?_;rintro v2 h2 s2 rfl
   try simp(disch:=omega) only[go_sem,ξ,ζ]
   exact⟨_,rfl,iff_of_false (by decide) (fun q=>by have:=q.2.1;rw[hB] at this;cases this)⟩
  | true=>
   rw[hB] at kB
   by_cases p1:p < 0
   ·refine Spec.go [] Tryz.func22 rfl rfl (by kernel_rfl) fun C _=>?_
    try simp(disch:=omega) only[go_sem,ξ,ζ,p1,decide_true]
    refine caN (by exact kE) ?_;rintro v1 h1 s1 rfl
    try simp(disch:=omega) only[go_sem,ξ,ζ,p1,decide_true]
    refine caN (by exact kB) ?_;rintro v2 h2 s2 rfl
    try simp(disch:=omega) only[go_sem,ξ,ζ,p1,decide_true]
    exact⟨_,rfl,iff_of_false (by decide) (fun q=>absurd (jt q.2.2.1) (by omega))⟩
   by_cases p2:p > 128
   ·refine Spec.go [] Tryz.func22 rfl rfl (by kernel_rfl) fun C _=>?_
    try simp(disch:=omega) only[go_sem,ξ,ζ]
    refine caN (by exact kE) ?_;rintro v1 h1 s1 rfl
    try simp(disch:=omega) only[go_sem,ξ,ζ]
    refine caN (by exact kB) ?_;rintro v2 h2 s2 rfl
    try simp(disch:=omega) only[go_sem,ξ,ζ,p1,p2,decide_true,decide_false]
    exact⟨_,rfl,iff_of_false (by decide) (fun q=>absurd (jt q.2.2.1) (by omega))⟩
   have gp:bad p=false:=by
    unfold bad
    simp only[Bool.or_eq_false_iff,decide_eq_false_iff_not]
    omega
   refine Spec.go [] Tryz.func22 rfl rfl (by kernel_rfl) fun C _=>?_
   try simp(disch:=omega) only[go_sem,ξ,ζ]
   refine caN (by exact kE) ?_;rintro v1 h1 s1 rfl
   try simp(disch:=omega) only[go_sem,ξ,ζ]
   refine caN (by exact kB) ?_;rintro v2 h2 s2 rfl
   try simp(disch:=omega) only[go_sem,ξ,ζ,p1,p2,decide_false]
   refine caN (by exact kN) ?_;rintro v3 h3 s3 ⟨aa,cc,ns,rfl,hlen,hns,hat⟩
   try simp(disch:=omega) only[go_sem,ξ,ζ]
   refine lp [] (fun i:Nat=>⟨[(1,.v (.slice va vm vc)),(31,.v (.slice aa ns.length cc)),(32,.v (.int .i64 ns.length)),(33,.v (.int .i64 i))],[]⟩) (fun i h'=>Le h0 h'∧Le h3 h'∧i≤ns.length∧∀j s,j < i→ns[j]?=some s→fnd l ⟨s.toArray⟩≠none) (fun i=>ns.length - i) 0 ?_ ⟨inferInstance,inferInstance,qBh _,fun j s q=>absurd q (Nat.not_lt_zero _)⟩ (by kernel_rfl) ?_
   ·try simp(disch:=omega) only[go_sem,ξ,ζ]
    all_goals rfl
   rintro i h4 ⟨le4,le4',hi,hf⟩
   by_cases hl:(i:Int) < (ns.length:Int)
   ·obtain⟨s,hs⟩:∃s,ns[i]?=some s:=⟨_,List.getElem?_eq_getElem (by omega)⟩
    obtain⟨ad,rfl,hc⟩:=hat i s hs
    have hc4:=le4'.sub.at hc
    have kI':=fun {h} [Le h0 h]=>kI (s:=⟨s.toArray⟩) (h:=h)
    cases hfd:fnd l ⟨s.toArray⟩ with
    | none=>
     rw[hfd] at kI'
     try simp(disch:=omega) only[go_sem,ξ,ζ,hl,decide_true]
     refine aE hc4 ?_
     try simp(disch:=omega) only[go_sem,ξ,ζ]
     refine caN (by exact kI') ?_;rintro v5 h5 s5 rfl
     try simp(disch:=omega) only[go_sem,ξ,ζ]
     refine⟨_,rfl,iff_of_false (by decide) (fun q=>?_)⟩
     obtain⟨nm,hm1,hm2⟩:=(hns s).1 (List.mem_of_getElem? hs)
     have e1:nm=⟨s.toArray⟩:=by rw[←hm2]
     exact absurd (e1▸hfd) (q.2.2.2 nm hm1)
    | some k=>
     rw[hfd] at kI'
     have hk:¬((k:Int) < 0):=by omega
     try simp(disch:=omega) only[go_sem,ξ,ζ,hl,decide_true]
     refine aE hc4 ?_
     try simp(disch:=omega) only[go_sem,ξ,ζ]
     refine caN (by exact kI') ?_;rintro v5 h5 s5 rfl
     try simp(disch:=omega) only[go_sem,ξ,ζ,hk,decide_false]
     dsimp only[lpE];refine⟨i+1,?_,⟨inferInstance,inferInstance,by omega,fun j s' hj hs'=>?_⟩,by omega⟩
     ·try simp(disch:=omega) only[go_sem,ξ,ζ]
      all_goals rfl
     ·rcases qBj j i with q |q
      ·exact hf j s' q hs'
      ·obtain rfl:j=i:=by omega
       rw[hs] at hs';cases hs'
       rw[hfd];exact fun q=>by cases q
   ·try simp(disch:=omega) only[go_sem,ξ,ζ,hl,decide_false]
    refine⟨_,rfl,iff_of_true rfl ⟨rfl,hB,gp,fun nm hm=>?_⟩⟩
    obtain⟨j,hj⟩:=List.getElem?_of_mem ((hns nm.data.toList).2 ⟨nm,hm,rfl⟩)
    have:=hf j _ (by have:=(List.getElem?_eq_some_iff.1 hj).1;omega) hj
    exact this
def Rgo (rdy:Prop) (o:Out) (q:Out):Prop:=(rdy→q=match o with |.error e=>.error (undE e) |.ok z=>.ok z)∧(¬rdy→∃k,k≠0∧q=.error k)
theorem RangeX_spec {h0 h:PH} [Le h0 h] {e:Exq} {ev v:Value} {l:List Sd1} {p:Int} {ve:Bool} (he:Xv h0 e ev) (hv:Boxv h0 v l) (hve:ve=true→(valX e∧nmOk e)∧(nodesL e).length≤300) (hwo:woX e)
  (kE:∀{h:PH} [Le h0 h],Spec mach 52 #[ev] h (fun r _=>r=.bool ve) NP):Spec mach 11 #[ev,v,.int .i64 p] h (fun r h'=>∃q,Ir h' r q∧Rgo (Rdy ve l p e) (evX (bxF l) p e) q) NP:=by
 have kR:=fun {h:PH} [Le h0 h]=>ReadyX_spec (h:=h) (p:=p) he hv (fun q=>⟨(hve q).1.2,(hve q).2⟩) (fun {h} [Le h0 h]=>kE (h:=h))
 have kV:bad p=false→ve=true→∀{h:PH} [Le h0 h],Spec mach 23 #[ev,v,.int .i64 p] h (fun r h'=>Ir h' r (evX (bxF l) p e)) NP:=fun gp gv {h} [Le h0 h]=>Eval_spec e (h:=h) he hv gp (hve gv).1.1 hwo
 have hnz:∀k,evX (bxF l) p e=.error k→k≠0:=fun k hk=>ev_nz k hk
 have hrd:Rdy ve l p e→bad p=false∧ve=true:=fun q=>⟨q.2.2.1,q.1⟩
 generalize Rdy ve l p e=R at*
 generalize evX (bxF l) p e=o at*
 obtain _ |⟨op,arg,num,name,n,kid⟩:=e
 ·exact he.elim
 obtain⟨a,c,⟨a1,m1,c1,a2,m2,c2,rfl,_⟩,_⟩:=he
 obtain⟨va,vm,vc,rfl⟩:=hv.sa
 refine Spec.go [] Tryz.func11 rfl rfl (by kernel_rfl) fun C _=>?_
 try simp(disch:=omega) only[go_sem,ξ,ζ]
 refine caN (by exact kR) ?_;rintro v1 h1 s1 ⟨k,rfl,hk⟩
 by_cases k0:k=0
 ·subst k0
  have hR:=hk.1 rfl
  have kV':=fun {h:PH} [Le h0 h]=>kV (hrd hR).1 (hrd hR).2 (h:=h)
  try simp(disch:=omega) only[go_sem,ξ,ζ]
  cases o with
  | ok z=>
   refine caN (by exact kV') ?_;rintro r h3 s3 r3;obtain⟨u,rfl,c3⟩:=r3;obtain⟨_,_,_,_,_,_,_,_,_,_,_,_,_,_,_,_,rfl,c3⟩:=c3.sa
   try simp(disch:=omega) only[go_sem,ξ,ζ]
   exact⟨.ok z,⟨_,rfl,c3⟩,fun _=>rfl,fun q=>absurd hR q⟩
  | error k=>
   have hk0:=hnz k rfl
   have hk1:(k == 0)=false:=by simpa using hk0
   have hk2:(k != 0)=true:=by simpa using hk0
   refine caN (by exact kV') ?_;rintro r h3 s3 r3;obtain rfl:=r3;unfold zIv
   try simp(disch:=omega) only[go_sem,ξ,ζ,hk1,hk2]
   refine caN (Undefined_spec (e:=k)) ?_;rintro r h4 s4 rfl
   try simp(disch:=omega) only[go_sem,ξ,ζ]
   exact⟨.error (undE k),rfl,fun _=>rfl,fun q=>absurd hR q⟩
 ·have hk2:(k != 0)=true:=by simpa using k0
  have hk1:(k == 0)=false:=by simpa using k0
  try simp(disch:=omega) only[go_sem,ξ,ζ,hk1,hk2]
  exact⟨.error k,rfl,fun q=>absurd (hk.2 q) k0,fun _=>⟨k,k0,rfl⟩⟩
end Go.Q
namespace Go.Q
open Go.Proofs
set_option maxRecDepth 100000
set_option maxHeartbeats 4000000
def insB (s t:PS):Bool:=s.e || ((t.l || (!s.l && !decide (s.lo < t.lo))) && (t.u || (!s.u && !decide (t.hi < s.hi))) && !t.e)
theorem J5 (s t:PS):s.n.within t.n=insB s t:=by
 obtain⟨p1,p2,l,u,e⟩:=s
 obtain⟨q1,q2,l',u',e'⟩:=t
 cases e<;>cases e'<;>cases l<;>cases l'<;>cases u<;>cases u'<;>simp[PS.n,NS.within,NS.lowIn,NS.highIn,insB]
def RI.bo2 (x y:RI) (b:Bool):Except Int Bool:=bif x.big || y.big then .error 1 else .ok b
theorem Inside1 {h0 h:PH} [Le h0 h] {v w:Value} {x y:RI} {b1 b2:Nat} {cs ds:List Value} (hv:Iv h0 v x) (hw:Iv h0 w y) (hc:v=.agg cs.toArray) (hl:cs.length=8) (hb1:h b1=some cs.toArray) (hc':w=.agg ds.toArray) (hl':ds.length=8) (hb2:h b2=some ds.toArray):
  Bd 58 #[.pointer (some ⟨b1,0,none⟩),.pointer (some ⟨b2,0,none⟩)] h (x.bo2 y (x.set.within y.set)):=by
 subst hc
 subst hc'
 unfold RI.bo2
 cases g:x.big with
 | true=>
  simp only[Bool.true_or,cond_true]
  refine Spec.enter (args:=[_,_]) (n:=54) Tryz.func58 rfl (by kernel_rfl) rfl (by simp) [.tmp 2] rfl (fun C _=>?_)
  repeat (first |(refine wo rfl (fun k hk=>?_);simp(disch:=omega) only[go_sem,ξ,ζ];apply hk;clear hk k) |refine wkt rfl ?_ |refine wk0 ?_ |refine rg rfl rfl (fun K hK=>?_) |((first |refine ae ?_ |refine ac ?_);simp(disch:=decide) only[qs,qb,if_true,if_false,reduceIte]) |refine ah rfl (fun K hK=>?_) |refine ct rfl ?_ |((try simp(disch:=omega) only[go_sem,ξ,ζ]);(first |apply hK |(clear hK;apply hK) |(clear hK;clear hK;apply hK));clear hK;(try clear K);(try dsimp only[ag,qs,qb])))
  refine wk (fun k hk=>?_);simp(disch:=omega) only[go_sem,ξ,ζ];refine⟨cs,hl,fG hb1,?_⟩;apply hk;clear hk k;(repeat (first |(refine wo rfl (fun k hk=>?_);simp(disch:=omega) only[go_sem,ξ,ζ];apply hk;clear hk k) |refine wkt rfl ?_));(try refine wk0 ?_)
  exact cF rfl rfl rfl rfl (by exact fF hv g) (fun _ _ h=>h)
 | false =>
  cases g':y.big with
  | true=>
   simp only[Bool.or_true,cond_true]
   refine Spec.enter (args:=[_,_]) (n:=54) Tryz.func58 rfl (by kernel_rfl) rfl (by simp) [.tmp 2] rfl (fun C _=>?_)
   repeat (first |(refine wo rfl (fun k hk=>?_);simp(disch:=omega) only[go_sem,ξ,ζ];apply hk;clear hk k) |refine wkt rfl ?_ |refine wk0 ?_ |refine rg rfl rfl (fun K hK=>?_) |((first |refine ae ?_ |refine ac ?_);simp(disch:=decide) only[qs,qb,if_true,if_false,reduceIte]) |refine ah rfl (fun K hK=>?_) |refine ct rfl ?_ |((try simp(disch:=omega) only[go_sem,ξ,ζ]);(first |apply hK |(clear hK;apply hK) |(clear hK;clear hK;apply hK));clear hK;(try clear K);(try dsimp only[ag,qs,qb])))
   refine wk (fun k hk=>?_);simp(disch:=omega) only[go_sem,ξ,ζ];refine⟨cs,hl,fG hb1,?_⟩;apply hk;clear hk k;(repeat (first |(refine wo rfl (fun k hk=>?_);simp(disch:=omega) only[go_sem,ξ,ζ];apply hk;clear hk k) |refine wkt rfl ?_));(try refine wk0 ?_)
   refine cN rfl rfl rfl rfl (by exact dK hv g) ?_;rintro s1 h1 st1 hs1;obtain⟨_,_,_,_,_,_,_,_,_,_,_,_,_,_,_,_,rfl,hs1⟩:=hs1.sa;(repeat (first |(refine wo rfl (fun k hk=>?_);simp(disch:=omega) only[go_sem,ξ,ζ];apply hk;clear hk k) |refine wkt rfl ?_));(try refine wk0 ?_)
   (try (simp(disch:=omega) only[go_sem,ξ,ζ]));apply hK;clear hK;(try clear K);(try dsimp only[ag,qs])
   refine rg rfl rfl (fun K hK=>?_);(repeat (first |(refine wo rfl (fun k hk=>?_);simp(disch:=omega) only[go_sem,ξ,ζ];apply hk;clear hk k) |refine wkt rfl ?_));(try refine wk0 ?_)
   refine wk (fun k hk=>?_);simp(disch:=omega) only[go_sem,ξ,ζ];refine⟨ds,hl',fG (st1.sub _ _ hb2),?_⟩;apply hk;clear hk k;(repeat (first |(refine wo rfl (fun k hk=>?_);simp(disch:=omega) only[go_sem,ξ,ζ];apply hk;clear hk k) |refine wkt rfl ?_));(try refine wk0 ?_)
   exact cF rfl rfl rfl rfl (by exact fF hw g') (fun _ _ h=>h)
  | false =>
   simp only[Bool.or_false,cond_false]
   obtain⟨g1,g2⟩:=RI.small g
   obtain⟨g3,g4⟩:=RI.small g'
   have kA:=fun {h} [Le h0 h]=>wy (h:=h) hv g1 g2
   have kB:=fun {h} [Le h0 h]=>wy (h:=h) hw g3 g4
   rw[←RI.set_eq x,←RI.set_eq y,J5]
   have z1:sz (rdS (qof x.n1 x.a1 x.d1) (qof x.n2 x.a2 x.d2) x.l x.u).lo≤2^30:=by show sz (qof x.n1 x.a1 x.d1)≤_;unfold lg at g1;omega
   have z2:sz (rdS (qof x.n1 x.a1 x.d1) (qof x.n2 x.a2 x.d2) x.l x.u).hi≤2^30:=by show sz (qof x.n2 x.a2 x.d2)≤_;unfold lg at g2;omega
   have z3:sz (rdS (qof y.n1 y.a1 y.d1) (qof y.n2 y.a2 y.d2) y.l y.u).lo≤2^30:=by show sz (qof y.n1 y.a1 y.d1)≤_;unfold lg at g3;omega
   have z4:sz (rdS (qof y.n1 y.a1 y.d1) (qof y.n2 y.a2 y.d2) y.l y.u).hi≤2^30:=by show sz (qof y.n2 y.a2 y.d2)≤_;unfold lg at g4;omega
   generalize rdS (qof x.n1 x.a1 x.d1) (qof x.n2 x.a2 x.d2) x.l x.u=s at*
   generalize rdS (qof y.n1 y.a1 y.d1) (qof y.n2 y.a2 y.d2) y.l y.u=t at*
   obtain⟨p1,p2,l,u,e⟩:=s
   obtain⟨p1',p2',l',u',e'⟩:=t
   dsimp only at*
   refine Spec.enter (args:=[_,_]) (n:=54) Tryz.func58 rfl (by kernel_rfl) rfl (by simp) [.tmp 2] rfl (fun C _=>?_)
   repeat (first |(refine wo rfl (fun k hk=>?_);simp(disch:=omega) only[go_sem,ξ,ζ];apply hk;clear hk k) |refine wkt rfl ?_ |refine wk0 ?_ |refine rg rfl rfl (fun K hK=>?_) |((first |refine ae ?_ |refine ac ?_);simp(disch:=decide) only[qs,qb,if_true,if_false,reduceIte]) |refine ah rfl (fun K hK=>?_) |refine ct rfl ?_ |((try simp(disch:=omega) only[go_sem,ξ,ζ]);(first |apply hK |(clear hK;apply hK) |(clear hK;clear hK;apply hK));clear hK;(try clear K);(try dsimp only[ag,qs,qb])))
   refine wk (fun k hk=>?_);simp(disch:=omega) only[go_sem,ξ,ζ];refine⟨cs,hl,fG hb1,?_⟩;apply hk;clear hk k;(repeat (first |(refine wo rfl (fun k hk=>?_);simp(disch:=omega) only[go_sem,ξ,ζ];apply hk;clear hk k) |refine wkt rfl ?_));(try refine wk0 ?_)
   refine cN rfl rfl rfl rfl (by exact kA) ?_;rintro v1 h1 st1 q1;obtain⟨f1,f2,f3,f4,f5,f6,f7,f8,f9,fa,fb,fc,fd,fe,rfl,s1,s2⟩:=q1.sb;(repeat (first |(refine wo rfl (fun k hk=>?_);simp(disch:=omega) only[go_sem,ξ,ζ];apply hk;clear hk k) |refine wkt rfl ?_));(try refine wk0 ?_)
   (try (simp(disch:=omega) only[go_sem,ξ,ζ]));apply hK;clear hK;(try clear K);(try dsimp only[ag,qs])
   refine rg rfl rfl (fun K hK=>?_);(repeat (first |(refine wo rfl (fun k hk=>?_);simp(disch:=omega) only[go_sem,ξ,ζ];apply hk;clear hk k) |refine wkt rfl ?_));(try refine wk0 ?_)
   refine wk (fun k hk=>?_);simp(disch:=omega) only[go_sem,ξ,ζ];refine⟨ds,hl',fG (st1.sub _ _ hb2),?_⟩;apply hk;clear hk k;(repeat (first |(refine wo rfl (fun k hk=>?_);simp(disch:=omega) only[go_sem,ξ,ζ];apply hk;clear hk k) |refine wkt rfl ?_));(try refine wk0 ?_)
   refine cN rfl rfl rfl rfl (by exact kB) ?_;rintro v2 h2 st2 q2;obtain⟨k1,k2,k3,k4,k5,k6,k7,k8,k9,ka,kb,kc,kd,ke,rfl,t1,t2⟩:=q2.sb;(repeat (first |(refine wo rfl (fun k hk=>?_);simp(disch:=omega) only[go_sem,ξ,ζ];apply hk;clear hk k) |refine wkt rfl ?_));(try refine wk0 ?_)
   (try (simp(disch:=omega) only[go_sem,ξ,ζ]));apply hK;clear hK;(try clear K);(try dsimp only[ag,qs])
   replace s1:=s1.to (h':=h2)
   replace s2:=s2.to (h':=h2)
   refine rg rfl rfl (fun K hK=>?_)
   have rest :∀(lw:Bool) (h':PH) (S:AS) [Le h2 h'],(l' || (!l && !decide (p1 < p1')))=lw→S.le ⟨[(3,.p 0 0),(4,.p 1 0),(5,.v (.bool lw))],[[.bool f1,.slice f2 f3 f4,.slice f5 f6 f7,.bool f8,.slice f9 fa fb,.slice fc fd fe,.bool l,.bool u,.bool e],[.bool k1,.slice k2 k3 k4,.slice k5 k6 k7,.bool k8,.slice k9 ka kb,.slice kc kd ke,.bool l',.bool u',.bool e']]⟩→K S h':=by
    intro lw h' S _ elw hS
    refine hK _ _ (fq _ hS ?_);clear hK K
    refine rg rfl rfl (fun K hK=>?_)
    have rest:∀(hg:Bool) (h'':PH) (S:AS) [Le h' h''],(u' || (!u && !decide (p2' < p2)))=hg→S.le ⟨[(3,.p 0 0),(4,.p 1 0),(5,.v (.bool lw)),(6,.v (.bool hg))],[[.bool f1,.slice f2 f3 f4,.slice f5 f6 f7,.bool f8,.slice f9 fa fb,.slice fc fd fe,.bool l,.bool u,.bool e],[.bool k1,.slice k2 k3 k4,.slice k5 k6 k7,.bool k8,.slice k9 ka kb,.slice kc kd ke,.bool l',.bool u',.bool e']]⟩→K S h'':=by
     intro hg h'' S _ ehg hS
     refine hK _ _ (fq _ hS ?_);clear hK K
     have er:insB ⟨p1,p2,l,u,e⟩ ⟨p1',p2',l',u',e'⟩=(e || (lw && hg && !e')):=by unfold insB;dsimp only;rw[elw,ehg]
     rw[er]
     clear er elw ehg
     cases e with
     | true=>
      repeat (first |(refine wo rfl (fun k hk=>?_);simp(disch:=omega) only[go_sem,ξ,ζ];apply hk;clear hk k) |refine wkt rfl ?_ |refine wk0 ?_ |refine rg rfl rfl (fun K hK=>?_) |((first |refine ae ?_ |refine ac ?_);simp(disch:=decide) only[qs,qb,if_true,if_false,reduceIte]) |refine ah rfl (fun K hK=>?_) |refine ct rfl ?_ |((try simp(disch:=omega) only[go_sem,ξ,ζ]);(first |apply hK |(clear hK;apply hK) |(clear hK;clear hK;apply hK));clear hK;(try clear K);(try dsimp only[ag,qs,qb])))
      refine ai ?_;simp(disch:=omega) only[go_sem,ξ,ζ]
      all_goals rfl
     | false=>
      cases lw<;>cases hg<;>
      ·repeat (first |(refine wo rfl (fun k hk=>?_);simp(disch:=omega) only[go_sem,ξ,ζ];apply hk;clear hk k) |refine wkt rfl ?_ |refine wk0 ?_ |refine rg rfl rfl (fun K hK=>?_) |((first |refine ae ?_ |refine ac ?_);simp(disch:=decide) only[qs,qb,if_true,if_false,reduceIte]) |refine ah rfl (fun K hK=>?_) |refine ct rfl ?_ |((try simp(disch:=omega) only[go_sem,ξ,ζ]);(first |apply hK |(clear hK;apply hK) |(clear hK;clear hK;apply hK));clear hK;(try clear K);(try dsimp only[ag,qs,qb])))
       refine ai ?_;simp(disch:=omega) only[go_sem,ξ,ζ]
       all_goals first |rfl |simp
    clear hK
    ·cases u' with
     | true=>
      (repeat (first |(refine wo rfl (fun k hk=>?_);simp(disch:=omega) only[go_sem,ξ,ζ];apply hk;clear hk k) |refine wkt rfl ?_));(try refine wk0 ?_)
      refine rest true _ _ rfl ?_
      simp(disch:=omega) only[go_sem,ξ,ζ]
     | false=>
      cases u with
      | true=>
       (repeat (first |(refine wo rfl (fun k hk=>?_);simp(disch:=omega) only[go_sem,ξ,ζ];apply hk;clear hk k) |refine wkt rfl ?_));(try refine wk0 ?_)
       refine rest false _ _ rfl ?_
       simp(disch:=omega) only[go_sem,ξ,ζ]
      | false=>
       by_cases hc:p2' < p2
       ·have c1:¬(cmpQ p2 p2'≤0):=by unfold cmpQ;grind
        (repeat (first |(refine wo rfl (fun k hk=>?_);simp(disch:=omega) only[go_sem,ξ,ζ];apply hk;clear hk k) |refine wkt rfl ?_));(try refine wk0 ?_)
        refine cN rfl rfl rfl rfl (by exact dq (s2.to (h':=h')) (t2.to (h':=h')) (up36 z2) (up36 z4)) ?_;rintro vc hh sc rfl;(repeat (first |(refine wo rfl (fun k hk=>?_);simp(disch:=omega) only[go_sem,ξ,ζ];apply hk;clear hk k) |refine wkt rfl ?_));(try refine wk0 ?_)
        refine rest false _ _ (by simp[hc]) ?_
        simp(disch:=omega) only[go_sem,ξ,ζ]
       ·have c1:(cmpQ p2 p2'≤0):=by unfold cmpQ;grind
        (repeat (first |(refine wo rfl (fun k hk=>?_);simp(disch:=omega) only[go_sem,ξ,ζ];apply hk;clear hk k) |refine wkt rfl ?_));(try refine wk0 ?_)
        refine cN rfl rfl rfl rfl (by exact dq (s2.to (h':=h')) (t2.to (h':=h')) (up36 z2) (up36 z4)) ?_;rintro vc hh sc rfl;(repeat (first |(refine wo rfl (fun k hk=>?_);simp(disch:=omega) only[go_sem,ξ,ζ];apply hk;clear hk k) |refine wkt rfl ?_));(try refine wk0 ?_)
        refine rest true _ _ (by simp[hc]) ?_
        simp(disch:=omega) only[go_sem,ξ,ζ]
   clear hK
   ·cases l' with
    | true=>
     (repeat (first |(refine wo rfl (fun k hk=>?_);simp(disch:=omega) only[go_sem,ξ,ζ];apply hk;clear hk k) |refine wkt rfl ?_));(try refine wk0 ?_)
     refine rest true _ _ rfl ?_
     simp(disch:=omega) only[go_sem,ξ,ζ]
    | false=>
     cases l with
     | true=>
      (repeat (first |(refine wo rfl (fun k hk=>?_);simp(disch:=omega) only[go_sem,ξ,ζ];apply hk;clear hk k) |refine wkt rfl ?_));(try refine wk0 ?_)
      refine rest false _ _ rfl ?_
      simp(disch:=omega) only[go_sem,ξ,ζ]
     | false=>
      by_cases hc:p1 < p1'
      ·have c1:¬(0≤cmpQ p1 p1'):=by unfold cmpQ;grind
       (repeat (first |(refine wo rfl (fun k hk=>?_);simp(disch:=omega) only[go_sem,ξ,ζ];apply hk;clear hk k) |refine wkt rfl ?_));(try refine wk0 ?_)
       refine cN rfl rfl rfl rfl (by exact dq s1 t1 (up36 z1) (up36 z3)) ?_;rintro vc hh sc rfl;(repeat (first |(refine wo rfl (fun k hk=>?_);simp(disch:=omega) only[go_sem,ξ,ζ];apply hk;clear hk k) |refine wkt rfl ?_));(try refine wk0 ?_)
       refine rest false _ _ (by simp[hc]) ?_
       simp(disch:=omega) only[go_sem,ξ,ζ]
      ·have c1:(0≤cmpQ p1 p1'):=by unfold cmpQ;grind
       (repeat (first |(refine wo rfl (fun k hk=>?_);simp(disch:=omega) only[go_sem,ξ,ζ];apply hk;clear hk k) |refine wkt rfl ?_));(try refine wk0 ?_)
       refine cN rfl rfl rfl rfl (by exact dq s1 t1 (up36 z1) (up36 z3)) ?_;rintro vc hh sc rfl;(repeat (first |(refine wo rfl (fun k hk=>?_);simp(disch:=omega) only[go_sem,ξ,ζ];apply hk;clear hk k) |refine wkt rfl ?_));(try refine wk0 ?_)
       refine rest true _ _ (by simp[hc]) ?_
       simp(disch:=omega) only[go_sem,ξ,ζ]
theorem o4 {h0 h:PH} [Le h0 h] {v w:Value} {x y:RI} (hv:Iv h0 v x) (hw:Iv h0 w y):Spec mach 25 #[v,w] h (fun r _=>Br r (x.bo2 y (x.set.within y.set))) NP:=by
 have hv0:=hv
 have hw0:=hw
 obtain⟨a1,m1,c1,a2,m2,c2,a3,m3,c3,a4,m4,c4,rfl,_,_⟩:=hv.sa
 obtain⟨a1',m1',c1',a2',m2',c2',a3',m3',c3',a4',m4',c4',rfl,_,_⟩:=hw.sa
 refine Spec.enter (args:=[_,_]) (n:=10) Tryz.func25 rfl (by kernel_rfl) rfl (by simp) [.tmp 4,.tmp 5] rfl (fun C _=>?_)
 repeat (first |(refine rg rfl rfl (fun K hK=>?_);(repeat (first |(refine wo rfl (fun k hk=>?_);simp(disch:=omega) only[go_sem,ξ,ζ];apply hk;clear hk k) |refine wkt rfl ?_));(try refine wk0 ?_);apply hK;clear hK K;(try dsimp only[ag,qs,qb])) |((first |refine ae ?_ |refine ac ?_);simp(disch:=decide) only[qs,qb,if_true,if_false,reduceIte]) |refine ah rfl (fun K hK=>?_) |refine ct rfl ?_ |((first |refine hK _ _ ?_ |(clear hK;refine hK _ _ ?_) |(clear hK;clear hK;refine hK _ _ ?_));clear hK;(try clear K)))
 refine fk [.p 0,.p 1,.o 0,.o 1,.o 2,.o 3,.o 4,.o 5] rfl rfl (fun K hK=>?_);(repeat (first |(refine wo rfl (fun k hk=>?_);simp(disch:=omega) only[go_sem,ξ,ζ];apply hk;clear hk k) |refine wkt rfl ?_));(try refine wk0 ?_)
 refine wkp ?_;simp(disch:=omega) only[go_sem,ξ,ζ];intro b1 h1 st1 hb1;(repeat (first |(refine wo rfl (fun k hk=>?_);simp(disch:=omega) only[go_sem,ξ,ζ];apply hk;clear hk k) |refine wkt rfl ?_));(try refine wk0 ?_)
 refine wkp ?_;simp(disch:=omega) only[go_sem,ξ,ζ];intro b2 h2 st2 hb2;(repeat (first |(refine wo rfl (fun k hk=>?_);simp(disch:=omega) only[go_sem,ξ,ζ];apply hk;clear hk k) |refine wkt rfl ?_));(try refine wk0 ?_)
 have hb2:=hb2 (by simp)
 have hb1:=st2.sub _ _ (hb1 (by simp))
 refine cN rfl rfl rfl rfl (by exact tU (Inside1 (hv0.to (h':=h2)) (hw0.to (h':=h2)) rfl rfl hb1 rfl rfl hb2)) ?_;rintro r3 h3 st3 hr3;obtain⟨_,_,rfl,hr3⟩:=hr3.sa;(repeat (first |(refine wo rfl (fun k hk=>?_);simp(disch:=omega) only[go_sem,ξ,ζ];apply hk;clear hk k) |refine wkt rfl ?_));(try refine wk0 ?_)
 (try (simp(disch:=omega) only[go_sem,ξ,ζ]));apply hK;clear hK;(try clear K);(try dsimp only[ag,qs])
 refine ai ?_;simp(disch:=omega) only[go_sem,ξ,ζ]
 exact hr3
end Go.Q
namespace Go.Q
open Go.Proofs Go.RowKit
set_option maxRecDepth 100000
set_option maxHeartbeats 8000000
def inXB (x y:RI):Bool:=!(x.big || y.big) && x.set.within y.set
theorem Ins_spec {h0 h:PH} [Le h0 h] {v w:Value} {x y:RI} (hv:Iv h0 v x) (hw:Iv h0 w y):Spec mach 12 #[v,w] h (fun r _=>r=.bool (inXB x y)) NP:=by
 have kH:=fun {h} [Le h0 h]=>o4 (h:=h) hv hw
 obtain⟨a1,m1,c1,a2,m2,c2,a3,m3,c3,a4,m4,c4,rfl,_,_⟩:=hv.sa
 obtain⟨a1',m1',c1',a2',m2',c2',a3',m3',c3',a4',m4',c4',rfl,_,_⟩:=hw.sa
 unfold RI.bo2 at kH
 unfold inXB
 generalize x.set.within y.set=hb at kH ⊢
 generalize(x.big || y.big)=g at kH ⊢
 cases g with
 | true=>
  simp only[cond_true] at kH
  refine Spec.go [] Tryz.func12 rfl rfl (by kernel_rfl) fun C _=>?_
  try simp(disch:=omega) only[go_sem,ξ,ζ]
  refine caN (by exact kH) ?_;rintro v1 h1 s1 q1;obtain rfl:v1=.tuple #[.bool false,.int .i64 1]:=q1
  try simp(disch:=omega) only[go_sem,ξ,ζ]
  all_goals rfl
 | false=>
  simp only[cond_false] at kH
  cases hb with
  | true=>
   refine Spec.go [] Tryz.func12 rfl rfl (by kernel_rfl) fun C _=>?_
   try simp(disch:=omega) only[go_sem,ξ,ζ]
   refine caN (by exact kH) ?_;rintro v1 h1 s1 q1;obtain rfl:v1=.tuple #[.bool true,.int .i64 0]:=q1
   try simp(disch:=omega) only[go_sem,ξ,ζ]
   all_goals rfl
  | false=>
   refine Spec.go [] Tryz.func12 rfl rfl (by kernel_rfl) fun C _=>?_
   try simp(disch:=omega) only[go_sem,ξ,ζ]
   refine caN (by exact kH) ?_;rintro v1 h1 s1 q1;obtain rfl:v1=.tuple #[.bool false,.int .i64 0]:=q1
   try simp(disch:=omega) only[go_sem,ξ,ζ]
   all_goals rfl
def narP (l l':List Sd1):Prop:=l.length=l'.length∧∀(i:Nat) x y,l[i]?=some x→l'[i]?=some y→x.1.toList=y.1.toList∧inXB x.2 y.2=true
theorem Narrow_spec {h0 h:PH} [Le h0 h] {v w:Value} {l l':List Sd1} (hv:Boxv h0 v l) (hw:Boxv h0 w l'):Spec mach 9 #[v,w] h (fun r _=>∃b:Bool,r=.bool b∧(b=true→narP l l')) NP:=by
  obtain⟨a,c,rfl,hn,k⟩:=hv
  obtain⟨a',c',rfl,hn',k'⟩:=hw
  by_cases el:l.length=l'.length
  · have en : ((l.length:Int) != (l'.length:Int))=false:=by rw[el];simp
    refine Spec.go [(6,.o [0,1,2,3,4,5,6,7,8,9,10,11,12,13,14,15,16,17,18,19,20,21,22,23,24])] Tryz.func9 rfl rfl (by kernel_rfl) fun C _=>?_
    try simp(disch:=omega) only[go_sem,ξ,ζ,en]
    refine lp [(6,.o [0,1,2,3,4,5,6,7,8,9,10,11,12,13,14,15,16,17,18,19,20,21,22,23,24])] (fun i:Nat=>⟨[(0,.v (.slice a l.length c)),(1,.v (.slice a' l'.length c')),(12,.v (.int .i64 l.length)),(13,.v (.int .i64 i))],[]⟩) (fun i h'=>Le h0 h'∧i≤l.length∧∀(j:Nat) x y,j < i→l[j]?=some x→l'[j]?=some y→x.1.toList=y.1.toList∧inXB x.2 y.2=true) (fun i=>l.length - i) 0 ?_ ⟨inferInstance,qBh _,fun j _ _ q=>absurd q (Nat.not_lt_zero _)⟩ (by kernel_rfl) ?_
    · try simp(disch:=omega) only[go_sem,ξ,ζ]
      all_goals rfl
    rintro i h2 ⟨le2,hi,hf⟩
    by_cases hlt:(i:Int) < l.length
    · obtain⟨x,hx⟩:∃x,l[i]?=some x:=⟨_,List.getElem?_eq_getElem (by omega)⟩
      obtain⟨y,hy⟩:∃y,l'[i]?=some y:=⟨_,List.getElem?_eq_getElem (by omega)⟩
      obtain⟨ad,b1,a1,m1,c1,a2,m2,c2,b2,a3,m3,c3,a4,m4,c4,e,u,rfl,hat,hiv⟩:=k i x hx
      obtain⟨ad',b1',a1',m1',c1',a2',m2',c2',b2',a3',m3',c3',a4',m4',c4',e',u',rfl,hat',hiv'⟩:=k' i y hy
      have e0:h0.at (ad.add (i*9))=some (.string x.1):=hat 0 _ rfl
      have e0':h0.at (ad'.add (i*9))=some (.string y.1):=hat' 0 _ rfl
      have hlt':(i:Int) < l'.length:=by omega
      have kS:=fun {h} [Le h0 h]=>Ins_spec (h:=h) hiv hiv'
      by_cases hs:(x.1.toList == y.1.toList)=true
      · try simp(disch:=omega) only[go_sem,ξ,ζ,hlt,decide_true]
        refine aE (le2.sub.at e0) ?_
        try simp(disch:=omega) only[go_sem,ξ,ζ]
        refine aE (le2.sub.at e0') ?_
        try simp(disch:=omega) only[go_sem,ξ,ζ,hs]
        refine Exists.intro [_,_,_,_,_,_,_,_] (And.intro rfl (And.intro (fun j v hj=>by rw[add_1];exact le2.sub.at (hat (j+1) v hj)) ?_))
        try simp(disch:=omega) only[go_sem,ξ,ζ]
        refine Exists.intro [_,_,_,_,_,_,_,_] (And.intro rfl (And.intro (fun j v hj=>by rw[add_1];exact le2.sub.at (hat' (j+1) v hj)) ?_))
        try simp(disch:=omega) only[go_sem,ξ,ζ]
        refine caN (by exact kS) ?_;rintro v3 h3 s3 rfl
        cases hI:inXB x.2 y.2 with
        | true=>
          try simp(disch:=omega) only[go_sem,ξ,ζ]
          dsimp only[lpE];refine⟨i+1,?_,⟨inferInstance,by omega,fun j x1 y1 hj h1 h2=>?_⟩,by omega⟩
          · try simp(disch:=omega) only[go_sem,ξ,ζ]
            all_goals rfl
          · rcases qBj j i with q |q
            · exact hf j x1 y1 q h1 h2
            · obtain rfl:j=i:=by omega
              rw[hx] at h1;rw[hy] at h2;cases h1;cases h2
              exact⟨by simpa using hs,hI⟩
        | false=>
          try simp(disch:=omega) only[go_sem,ξ,ζ]
          exact⟨_,rfl,fun q=>by cases q⟩
      · have hs':(x.1.toList == y.1.toList)=false:=by simpa using hs
        try simp(disch:=omega) only[go_sem,ξ,ζ,hlt,decide_true]
        refine aE (le2.sub.at e0) ?_
        try simp(disch:=omega) only[go_sem,ξ,ζ]
        refine aE (le2.sub.at e0') ?_
        try simp(disch:=omega) only[go_sem,ξ,ζ,hs']
        exact⟨_,rfl,fun q=>by cases q⟩
    · try simp(disch:=omega) only[go_sem,ξ,ζ,hlt,decide_false]
      exact⟨_,rfl,fun _=>⟨el,fun j x y h1 h2=>hf j x y (by have:=(List.getElem?_eq_some_iff.1 h1).1;omega) h1 h2⟩⟩
  · have en:((l.length:Int) != (l'.length:Int))=true:=by simp;omega
    refine Spec.go [(6,.o [0,1,2,3,4,5,6,7,8,9,10,11,12,13,14,15,16,17,18,19,20,21,22,23,24])] Tryz.func9 rfl rfl (by kernel_rfl) fun C _=>?_
    try simp(disch:=omega) only[go_sem,ξ,ζ,en]
    exact⟨_,rfl,fun q=>by cases q⟩
end Go.Q
namespace Go.Q
open Go.Proofs
set_option maxRecDepth 100000
set_option maxHeartbeats 8000000
theorem EKids_no {h:PH} {op:Int} (hk:kdE op=none):Spec mach 219 #[.int .i64 op] h (fun v _=>v=.tuple #[.int .i64 0,.bool false]) NP:=by
 have k:=EKids_spec (h:=h) (op:=op)
 rw[hk] at k
 exact k
theorem EKids_ok {h:PH} {op:Int} {n:Nat} (hk:kdE op=some n):Spec mach 219 #[.int .i64 op] h (fun v _=>v=.tuple #[.int .i64 n,.bool true]) NP:=by
 have k:=EKids_spec (h:=h) (op:=op)
 rw[hk] at k
 exact k
theorem nameB_size {s:ByteArray} (h:nameB s=true):s.size≤8:=by
 unfold nameB at h
 simp only[φ,decide_eq_true_eq] at h
 exact h.1.1
theorem OfRaw_spec {h0 h:PH} [Le h0 h] {b:Bool} {x y:Value} {neg:Bool} {n d:Nat} (r:Rw h0 (.agg #[.bool b,x,y]) neg n d):Spec mach 116 #[x] h (fun v h'=>N32 h' v n) NP:=by
 obtain⟨a,c,xs,a',c',ys,e,h1,h2,rfl,h4,h5⟩:=r
 simp only[Value.agg.injEq,Array.mk.injEq,List.cons.injEq,and_true] at e
 obtain⟨_,rfl,_⟩:=e
 exact Of_N h1
theorem Fields_spec (op arg:Int) (num:Bool×Nat×Nat) (name:ByteArray) (n:Nat):∃b:Bool,(b=true→kdE op=some n∧(op=2→name.size≤8))∧∀{h0 h:PH} [Le h0 h] {v:Value} {a:Option Addr} {c:Nat},Ndv h0 v op arg num name a n c→Spec mach 153 #[v] h (fun r _=>r=.bool b) NP:=by
 by_cases d9:op=9
 ·have f9:(op == 9)=true:=by simp;omega
  have f10:(op == 10)=false:=by simp;omega
  have f11:(op == 11)=false:=by simp;omega
  have f1:(op == 1)=false:=by simp;omega
  have f2:(op == 2)=false:=by simp;omega
  have e1:(op != 1)=true:=by simp;omega
  have e2:(op != 2)=true:=by simp;omega
  cases hk:kdE op with
  | none=>
   refine⟨false,fun h=>(by cases h),?_⟩
   rintro h0 h _ v a c ⟨a1,m1,c1,a2,m2,c2,rfl,hw⟩
   refine Spec.go [] Tryz.func153 rfl rfl (by kernel_rfl) fun C _=>?_
   try simp(maxSteps:=999999) (disch:=omega) only[go_sem,ξ,ζ,f9,f10,f11,f1,f2,e1,e2,decide_true,decide_false]
   refine caN (by exact EKids_no hk) ?_;rintro _ g1 s1 rfl
   try simp(maxSteps:=999999) (disch:=omega) only[go_sem,ξ,ζ,f9,f10,f11,f1,f2,e1,e2,decide_true,decide_false]
   all_goals rfl
  | some m=>
   by_cases hm:¬m=n
   ·have hm':((n:Int) != (m:Int))=true:=by simp;omega
    refine⟨false,fun h=>(by cases h),?_⟩
    rintro h0 h _ v a c ⟨a1,m1,c1,a2,m2,c2,rfl,hw⟩
    refine Spec.go [] Tryz.func153 rfl rfl (by kernel_rfl) fun C _=>?_
    try simp(maxSteps:=999999) (disch:=omega) only[go_sem,ξ,ζ,f9,f10,f11,f1,f2,e1,e2,decide_true,decide_false]
    refine caN (by exact EKids_ok hk) ?_;rintro _ g1 s1 rfl
    try simp(maxSteps:=999999) (disch:=omega) only[go_sem,ξ,ζ,f9,f10,f11,f1,f2,e1,e2,decide_true,decide_false,hm']
    all_goals rfl
   obtain rfl:m=n:=by omega
   have hm':((m:Int) != (m:Int))=false:=by simp
   by_cases q1:arg < -32
   ·refine⟨false,fun h=>(by cases h),?_⟩
    rintro h0 h _ v a c ⟨a1,m1,c1,a2,m2,c2,rfl,hw⟩
    refine Spec.go [] Tryz.func153 rfl rfl (by kernel_rfl) fun C _=>?_
    try simp(maxSteps:=999999) (disch:=omega) only[go_sem,ξ,ζ,f9,f10,f11,f1,f2,e1,e2,decide_true,decide_false]
    refine caN (by exact EKids_ok hk) ?_;rintro _ g1 s1 rfl
    try simp(maxSteps:=999999) (disch:=omega) only[go_sem,ξ,ζ,f9,f10,f11,f1,f2,e1,e2,decide_true,decide_false,hm',q1,decide_true]
    all_goals rfl
   by_cases q2:arg > 32
   ·refine⟨false,fun h=>(by cases h),?_⟩
    rintro h0 h _ v a c ⟨a1,m1,c1,a2,m2,c2,rfl,hw⟩
    refine Spec.go [] Tryz.func153 rfl rfl (by kernel_rfl) fun C _=>?_
    try simp(maxSteps:=999999) (disch:=omega) only[go_sem,ξ,ζ,f9,f10,f11,f1,f2,e1,e2,decide_true,decide_false]
    refine caN (by exact EKids_ok hk) ?_;rintro _ g1 s1 rfl
    try simp(maxSteps:=999999) (disch:=omega) only[go_sem,ξ,ζ,f9,f10,f11,f1,f2,e1,e2,decide_true,decide_false,hm',q1,q2,decide_true,decide_false]
    all_goals rfl
   cases hnm:name.toList == (⟨#[]⟩:ByteArray).toList with
   | false=>
    refine⟨false,fun h=>(by cases h),?_⟩
    rintro h0 h _ v a c ⟨a1,m1,c1,a2,m2,c2,rfl,hw⟩
    refine Spec.go [] Tryz.func153 rfl rfl (by kernel_rfl) fun C _=>?_
    try simp(maxSteps:=999999) (disch:=omega) only[go_sem,ξ,ζ,f9,f10,f11,f1,f2,e1,e2,decide_true,decide_false]
    refine caN (by exact EKids_ok hk) ?_;rintro _ g1 s1 rfl
    try simp(maxSteps:=999999) (disch:=omega) only[go_sem,ξ,ζ,f9,f10,f11,f1,f2,e1,e2,decide_true,decide_false,hm',q1,q2,decide_false,hnm,Bool.not_false]
    all_goals rfl
   | true=>
    refine⟨decide (num.2.1=0),fun _=>⟨rfl,fun h=>absurd h (by omega)⟩,?_⟩
    rintro h0 h _ v a c ⟨a1,m1,c1,a2,m2,c2,rfl,hw⟩
    refine Spec.go [] Tryz.func153 rfl rfl (by kernel_rfl) fun C _=>?_
    try simp(maxSteps:=999999) (disch:=omega) only[go_sem,ξ,ζ,f9,f10,f11,f1,f2,e1,e2,decide_true,decide_false]
    refine caN (by exact EKids_ok hk) ?_;rintro _ g1 s1 rfl
    try simp(maxSteps:=999999) (disch:=omega) only[go_sem,ξ,ζ,f9,f10,f11,f1,f2,e1,e2,decide_true,decide_false,hm',q1,q2,decide_false,hnm,Bool.not_true]
    refine caN (by exact OfRaw_spec (h:=g1) hw) ?_;rintro _ g3 s3 q3
    try simp(maxSteps:=999999) (disch:=omega) only[go_sem,ξ,ζ]
    refine caN (by exact bU q3) ?_;rintro _ g4 s4 rfl
    try simp(maxSteps:=999999) (disch:=omega) only[go_sem,ξ,ζ]
    all_goals rfl
 by_cases d10:op=10
 ·have f9:(op == 9)=false:=by simp;omega
  have f10:(op == 10)=true:=by simp;omega
  have f11:(op == 11)=false:=by simp;omega
  have f1:(op == 1)=false:=by simp;omega
  have f2:(op == 2)=false:=by simp;omega
  have e1:(op != 1)=true:=by simp;omega
  have e2:(op != 2)=true:=by simp;omega
  cases hk:kdE op with
  | none=>
   refine⟨false,fun h=>(by cases h),?_⟩
   rintro h0 h _ v a c ⟨a1,m1,c1,a2,m2,c2,rfl,hw⟩
   refine Spec.go [] Tryz.func153 rfl rfl (by kernel_rfl) fun C _=>?_
   try simp(maxSteps:=999999) (disch:=omega) only[go_sem,ξ,ζ,f9,f10,f11,f1,f2,e1,e2,decide_true,decide_false]
   refine caN (by exact EKids_no hk) ?_;rintro _ g1 s1 rfl
   try simp(maxSteps:=999999) (disch:=omega) only[go_sem,ξ,ζ,f9,f10,f11,f1,f2,e1,e2,decide_true,decide_false]
   all_goals rfl
  | some m=>
   by_cases hm:¬m=n
   ·have hm':((n:Int) != (m:Int))=true:=by simp;omega
    refine⟨false,fun h=>(by cases h),?_⟩
    rintro h0 h _ v a c ⟨a1,m1,c1,a2,m2,c2,rfl,hw⟩
    refine Spec.go [] Tryz.func153 rfl rfl (by kernel_rfl) fun C _=>?_
    try simp(maxSteps:=999999) (disch:=omega) only[go_sem,ξ,ζ,f9,f10,f11,f1,f2,e1,e2,decide_true,decide_false]
    refine caN (by exact EKids_ok hk) ?_;rintro _ g1 s1 rfl
    try simp(maxSteps:=999999) (disch:=omega) only[go_sem,ξ,ζ,f9,f10,f11,f1,f2,e1,e2,decide_true,decide_false,hm']
    all_goals rfl
   obtain rfl:m=n:=by omega
   have hm':((m:Int) != (m:Int))=false:=by simp
   by_cases q1:arg < 2
   ·refine⟨false,fun h=>(by cases h),?_⟩
    rintro h0 h _ v a c ⟨a1,m1,c1,a2,m2,c2,rfl,hw⟩
    refine Spec.go [] Tryz.func153 rfl rfl (by kernel_rfl) fun C _=>?_
    try simp(maxSteps:=999999) (disch:=omega) only[go_sem,ξ,ζ,f9,f10,f11,f1,f2,e1,e2,decide_true,decide_false]
    refine caN (by exact EKids_ok hk) ?_;rintro _ g1 s1 rfl
    try simp(maxSteps:=999999) (disch:=omega) only[go_sem,ξ,ζ,f9,f10,f11,f1,f2,e1,e2,decide_true,decide_false,hm',q1,decide_true]
    all_goals rfl
   by_cases q2:arg > 8
   ·refine⟨false,fun h=>(by cases h),?_⟩
    rintro h0 h _ v a c ⟨a1,m1,c1,a2,m2,c2,rfl,hw⟩
    refine Spec.go [] Tryz.func153 rfl rfl (by kernel_rfl) fun C _=>?_
    try simp(maxSteps:=999999) (disch:=omega) only[go_sem,ξ,ζ,f9,f10,f11,f1,f2,e1,e2,decide_true,decide_false]
    refine caN (by exact EKids_ok hk) ?_;rintro _ g1 s1 rfl
    try simp(maxSteps:=999999) (disch:=omega) only[go_sem,ξ,ζ,f9,f10,f11,f1,f2,e1,e2,decide_true,decide_false,hm',q1,q2,decide_true,decide_false]
    all_goals rfl
   cases hnm:name.toList == (⟨#[]⟩:ByteArray).toList with
   | false=>
    refine⟨false,fun h=>(by cases h),?_⟩
    rintro h0 h _ v a c ⟨a1,m1,c1,a2,m2,c2,rfl,hw⟩
    refine Spec.go [] Tryz.func153 rfl rfl (by kernel_rfl) fun C _=>?_
    try simp(maxSteps:=999999) (disch:=omega) only[go_sem,ξ,ζ,f9,f10,f11,f1,f2,e1,e2,decide_true,decide_false]
    refine caN (by exact EKids_ok hk) ?_;rintro _ g1 s1 rfl
    try simp(maxSteps:=999999) (disch:=omega) only[go_sem,ξ,ζ,f9,f10,f11,f1,f2,e1,e2,decide_true,decide_false,hm',q1,q2,decide_false,hnm,Bool.not_false]
    all_goals rfl
   | true=>
    refine⟨decide (num.2.1=0),fun _=>⟨rfl,fun h=>absurd h (by omega)⟩,?_⟩
    rintro h0 h _ v a c ⟨a1,m1,c1,a2,m2,c2,rfl,hw⟩
    refine Spec.go [] Tryz.func153 rfl rfl (by kernel_rfl) fun C _=>?_
    try simp(maxSteps:=999999) (disch:=omega) only[go_sem,ξ,ζ,f9,f10,f11,f1,f2,e1,e2,decide_true,decide_false]
    refine caN (by exact EKids_ok hk) ?_;rintro _ g1 s1 rfl
    try simp(maxSteps:=999999) (disch:=omega) only[go_sem,ξ,ζ,f9,f10,f11,f1,f2,e1,e2,decide_true,decide_false,hm',q1,q2,decide_false,hnm,Bool.not_true]
    refine caN (by exact OfRaw_spec (h:=g1) hw) ?_;rintro _ g3 s3 q3
    try simp(maxSteps:=999999) (disch:=omega) only[go_sem,ξ,ζ]
    refine caN (by exact bU q3) ?_;rintro _ g4 s4 rfl
    try simp(maxSteps:=999999) (disch:=omega) only[go_sem,ξ,ζ]
    all_goals rfl
 by_cases d11:op=11
 ·have f9:(op == 9)=false:=by simp;omega
  have f10:(op == 10)=false:=by simp;omega
  have f11:(op == 11)=true:=by simp;omega
  have f1:(op == 1)=false:=by simp;omega
  have f2:(op == 2)=false:=by simp;omega
  have e1:(op != 1)=true:=by simp;omega
  have e2:(op != 2)=true:=by simp;omega
  cases hk:kdE op with
  | none=>
   refine⟨false,fun h=>(by cases h),?_⟩
   rintro h0 h _ v a c ⟨a1,m1,c1,a2,m2,c2,rfl,hw⟩
   refine Spec.go [] Tryz.func153 rfl rfl (by kernel_rfl) fun C _=>?_
   try simp(maxSteps:=999999) (disch:=omega) only[go_sem,ξ,ζ,f9,f10,f11,f1,f2,e1,e2,decide_true,decide_false]
   refine caN (by exact EKids_no hk) ?_;rintro _ g1 s1 rfl
   try simp(maxSteps:=999999) (disch:=omega) only[go_sem,ξ,ζ,f9,f10,f11,f1,f2,e1,e2,decide_true,decide_false]
   all_goals rfl
  | some m=>
   by_cases hm:¬m=n
   ·have hm':((n:Int) != (m:Int))=true:=by simp;omega
    refine⟨false,fun h=>(by cases h),?_⟩
    rintro h0 h _ v a c ⟨a1,m1,c1,a2,m2,c2,rfl,hw⟩
    refine Spec.go [] Tryz.func153 rfl rfl (by kernel_rfl) fun C _=>?_
    try simp(maxSteps:=999999) (disch:=omega) only[go_sem,ξ,ζ,f9,f10,f11,f1,f2,e1,e2,decide_true,decide_false]
    refine caN (by exact EKids_ok hk) ?_;rintro _ g1 s1 rfl
    try simp(maxSteps:=999999) (disch:=omega) only[go_sem,ξ,ζ,f9,f10,f11,f1,f2,e1,e2,decide_true,decide_false,hm']
    all_goals rfl
   obtain rfl:m=n:=by omega
   have hm':((m:Int) != (m:Int))=false:=by simp
   by_cases q1:arg < 1
   ·refine⟨false,fun h=>(by cases h),?_⟩
    rintro h0 h _ v a c ⟨a1,m1,c1,a2,m2,c2,rfl,hw⟩
    refine Spec.go [] Tryz.func153 rfl rfl (by kernel_rfl) fun C _=>?_
    try simp(maxSteps:=999999) (disch:=omega) only[go_sem,ξ,ζ,f9,f10,f11,f1,f2,e1,e2,decide_true,decide_false]
    refine caN (by exact EKids_ok hk) ?_;rintro _ g1 s1 rfl
    try simp(maxSteps:=999999) (disch:=omega) only[go_sem,ξ,ζ,f9,f10,f11,f1,f2,e1,e2,decide_true,decide_false,hm',q1,decide_true]
    all_goals rfl
   by_cases q2:arg > 8
   ·refine⟨false,fun h=>(by cases h),?_⟩
    rintro h0 h _ v a c ⟨a1,m1,c1,a2,m2,c2,rfl,hw⟩
    refine Spec.go [] Tryz.func153 rfl rfl (by kernel_rfl) fun C _=>?_
    try simp(maxSteps:=999999) (disch:=omega) only[go_sem,ξ,ζ,f9,f10,f11,f1,f2,e1,e2,decide_true,decide_false]
    refine caN (by exact EKids_ok hk) ?_;rintro _ g1 s1 rfl
    try simp(maxSteps:=999999) (disch:=omega) only[go_sem,ξ,ζ,f9,f10,f11,f1,f2,e1,e2,decide_true,decide_false,hm',q1,q2,decide_true,decide_false]
    all_goals rfl
   cases hnm:name.toList == (⟨#[]⟩:ByteArray).toList with
   | false=>
    refine⟨false,fun h=>(by cases h),?_⟩
    rintro h0 h _ v a c ⟨a1,m1,c1,a2,m2,c2,rfl,hw⟩
    refine Spec.go [] Tryz.func153 rfl rfl (by kernel_rfl) fun C _=>?_
    try simp(maxSteps:=999999) (disch:=omega) only[go_sem,ξ,ζ,f9,f10,f11,f1,f2,e1,e2,decide_true,decide_false]
    refine caN (by exact EKids_ok hk) ?_;rintro _ g1 s1 rfl
    try simp(maxSteps:=999999) (disch:=omega) only[go_sem,ξ,ζ,f9,f10,f11,f1,f2,e1,e2,decide_true,decide_false,hm',q1,q2,decide_false,hnm,Bool.not_false]
    all_goals rfl
   | true=>
    refine⟨decide (num.2.1=0),fun _=>⟨rfl,fun h=>absurd h (by omega)⟩,?_⟩
    rintro h0 h _ v a c ⟨a1,m1,c1,a2,m2,c2,rfl,hw⟩
    refine Spec.go [] Tryz.func153 rfl rfl (by kernel_rfl) fun C _=>?_
    try simp(maxSteps:=999999) (disch:=omega) only[go_sem,ξ,ζ,f9,f10,f11,f1,f2,e1,e2,decide_true,decide_false]
    refine caN (by exact EKids_ok hk) ?_;rintro _ g1 s1 rfl
    try simp(maxSteps:=999999) (disch:=omega) only[go_sem,ξ,ζ,f9,f10,f11,f1,f2,e1,e2,decide_true,decide_false,hm',q1,q2,decide_false,hnm,Bool.not_true]
    refine caN (by exact OfRaw_spec (h:=g1) hw) ?_;rintro _ g3 s3 q3
    try simp(maxSteps:=999999) (disch:=omega) only[go_sem,ξ,ζ]
    refine caN (by exact bU q3) ?_;rintro _ g4 s4 rfl
    try simp(maxSteps:=999999) (disch:=omega) only[go_sem,ξ,ζ]
    all_goals rfl
 by_cases d2:op=2
 ·have f9:(op == 9)=false:=by simp;omega
  have f10:(op == 10)=false:=by simp;omega
  have f11:(op == 11)=false:=by simp;omega
  have f1:(op == 1)=false:=by simp;omega
  have f2:(op == 2)=true:=by simp;omega
  have e1:(op != 1)=true:=by simp;omega
  have e2:(op != 2)=false:=by simp;omega
  cases hk:kdE op with
  | none=>
   refine⟨false,fun h=>(by cases h),?_⟩
   rintro h0 h _ v a c ⟨a1,m1,c1,a2,m2,c2,rfl,hw⟩
   refine Spec.go [] Tryz.func153 rfl rfl (by kernel_rfl) fun C _=>?_
   try simp(maxSteps:=999999) (disch:=omega) only[go_sem,ξ,ζ,f9,f10,f11,f1,f2,e1,e2,decide_true,decide_false]
   refine caN (by exact EKids_no hk) ?_;rintro _ g1 s1 rfl
   try simp(maxSteps:=999999) (disch:=omega) only[go_sem,ξ,ζ,f9,f10,f11,f1,f2,e1,e2,decide_true,decide_false]
   all_goals rfl
  | some m=>
   by_cases hm:¬m=n
   ·have hm':((n:Int) != (m:Int))=true:=by simp;omega
    refine⟨false,fun h=>(by cases h),?_⟩
    rintro h0 h _ v a c ⟨a1,m1,c1,a2,m2,c2,rfl,hw⟩
    refine Spec.go [] Tryz.func153 rfl rfl (by kernel_rfl) fun C _=>?_
    try simp(maxSteps:=999999) (disch:=omega) only[go_sem,ξ,ζ,f9,f10,f11,f1,f2,e1,e2,decide_true,decide_false]
    refine caN (by exact EKids_ok hk) ?_;rintro _ g1 s1 rfl
    try simp(maxSteps:=999999) (disch:=omega) only[go_sem,ξ,ζ,f9,f10,f11,f1,f2,e1,e2,decide_true,decide_false,hm']
    all_goals rfl
   obtain rfl:m=n:=by omega
   have hm':((m:Int) != (m:Int))=false:=by simp
   by_cases q1:arg < 0
   ·refine⟨false,fun h=>(by cases h),?_⟩
    rintro h0 h _ v a c ⟨a1,m1,c1,a2,m2,c2,rfl,hw⟩
    refine Spec.go [] Tryz.func153 rfl rfl (by kernel_rfl) fun C _=>?_
    try simp(maxSteps:=999999) (disch:=omega) only[go_sem,ξ,ζ,f9,f10,f11,f1,f2,e1,e2,decide_true,decide_false]
    refine caN (by exact EKids_ok hk) ?_;rintro _ g1 s1 rfl
    try simp(maxSteps:=999999) (disch:=omega) only[go_sem,ξ,ζ,f9,f10,f11,f1,f2,e1,e2,decide_true,decide_false,hm',q1,decide_true]
    all_goals rfl
   by_cases q2:arg > 0
   ·refine⟨false,fun h=>(by cases h),?_⟩
    rintro h0 h _ v a c ⟨a1,m1,c1,a2,m2,c2,rfl,hw⟩
    refine Spec.go [] Tryz.func153 rfl rfl (by kernel_rfl) fun C _=>?_
    try simp(maxSteps:=999999) (disch:=omega) only[go_sem,ξ,ζ,f9,f10,f11,f1,f2,e1,e2,decide_true,decide_false]
    refine caN (by exact EKids_ok hk) ?_;rintro _ g1 s1 rfl
    try simp(maxSteps:=999999) (disch:=omega) only[go_sem,ξ,ζ,f9,f10,f11,f1,f2,e1,e2,decide_true,decide_false,hm',q1,q2,decide_true,decide_false]
    all_goals rfl
   cases hnm:nameB name with
   | false=>
    refine⟨false,fun h=>(by cases h),?_⟩
    rintro h0 h _ v a c ⟨a1,m1,c1,a2,m2,c2,rfl,hw⟩
    have kN:=fun {h:PH}=>IsName_spec (h:=h) (s:=name)
    rw[hnm] at kN
    refine Spec.go [] Tryz.func153 rfl rfl (by kernel_rfl) fun C _=>?_
    try simp(maxSteps:=999999) (disch:=omega) only[go_sem,ξ,ζ,f9,f10,f11,f1,f2,e1,e2,decide_true,decide_false]
    refine caN (by exact EKids_ok hk) ?_;rintro _ g1 s1 rfl
    try simp(maxSteps:=999999) (disch:=omega) only[go_sem,ξ,ζ,f9,f10,f11,f1,f2,e1,e2,decide_true,decide_false,hm',q1,q2,decide_false]
    refine caN (by exact kN) ?_;rintro _ g2 s2 rfl
    try simp(maxSteps:=999999) (disch:=omega) only[go_sem,ξ,ζ,f9,f10,f11,f1,f2,e1,e2,decide_true,decide_false]
    all_goals rfl
   | true=>
    refine⟨decide (num.2.1=0),fun _=>⟨rfl,fun _=>nameB_size hnm⟩,?_⟩
    rintro h0 h _ v a c ⟨a1,m1,c1,a2,m2,c2,rfl,hw⟩
    have kN:=fun {h:PH}=>IsName_spec (h:=h) (s:=name)
    rw[hnm] at kN
    refine Spec.go [] Tryz.func153 rfl rfl (by kernel_rfl) fun C _=>?_
    try simp(maxSteps:=999999) (disch:=omega) only[go_sem,ξ,ζ,f9,f10,f11,f1,f2,e1,e2,decide_true,decide_false]
    refine caN (by exact EKids_ok hk) ?_;rintro _ g1 s1 rfl
    try simp(maxSteps:=999999) (disch:=omega) only[go_sem,ξ,ζ,f9,f10,f11,f1,f2,e1,e2,decide_true,decide_false,hm',q1,q2,decide_false]
    refine caN (by exact kN) ?_;rintro _ g2 s2 rfl
    try simp(maxSteps:=999999) (disch:=omega) only[go_sem,ξ,ζ,f9,f10,f11,f1,f2,e1,e2,decide_true,decide_false]
    refine caN (by exact OfRaw_spec (h:=g2) hw) ?_;rintro _ g3 s3 q3
    try simp(maxSteps:=999999) (disch:=omega) only[go_sem,ξ,ζ]
    refine caN (by exact bU q3) ?_;rintro _ g4 s4 rfl
    try simp(maxSteps:=999999) (disch:=omega) only[go_sem,ξ,ζ]
    all_goals rfl
 by_cases d1:op=1
 ·have f9:(op == 9)=false:=by simp;omega
  have f10:(op == 10)=false:=by simp;omega
  have f11:(op == 11)=false:=by simp;omega
  have f1:(op == 1)=true:=by simp;omega
  have f2:(op == 2)=false:=by simp;omega
  have e1:(op != 1)=false:=by simp;omega
  have e2:(op != 2)=true:=by simp;omega
  cases hk:kdE op with
  | none=>
   refine⟨false,fun h=>(by cases h),?_⟩
   rintro h0 h _ v a c ⟨a1,m1,c1,a2,m2,c2,rfl,hw⟩
   refine Spec.go [] Tryz.func153 rfl rfl (by kernel_rfl) fun C _=>?_
   try simp(maxSteps:=999999) (disch:=omega) only[go_sem,ξ,ζ,f9,f10,f11,f1,f2,e1,e2,decide_true,decide_false]
   refine caN (by exact EKids_no hk) ?_;rintro _ g1 s1 rfl
   try simp(maxSteps:=999999) (disch:=omega) only[go_sem,ξ,ζ,f9,f10,f11,f1,f2,e1,e2,decide_true,decide_false]
   all_goals rfl
  | some m=>
   by_cases hm:¬m=n
   ·have hm':((n:Int) != (m:Int))=true:=by simp;omega
    refine⟨false,fun h=>(by cases h),?_⟩
    rintro h0 h _ v a c ⟨a1,m1,c1,a2,m2,c2,rfl,hw⟩
    refine Spec.go [] Tryz.func153 rfl rfl (by kernel_rfl) fun C _=>?_
    try simp(maxSteps:=999999) (disch:=omega) only[go_sem,ξ,ζ,f9,f10,f11,f1,f2,e1,e2,decide_true,decide_false]
    refine caN (by exact EKids_ok hk) ?_;rintro _ g1 s1 rfl
    try simp(maxSteps:=999999) (disch:=omega) only[go_sem,ξ,ζ,f9,f10,f11,f1,f2,e1,e2,decide_true,decide_false,hm']
    all_goals rfl
   obtain rfl:m=n:=by omega
   have hm':((m:Int) != (m:Int))=false:=by simp
   by_cases q1:arg < 0
   ·refine⟨false,fun h=>(by cases h),?_⟩
    rintro h0 h _ v a c ⟨a1,m1,c1,a2,m2,c2,rfl,hw⟩
    refine Spec.go [] Tryz.func153 rfl rfl (by kernel_rfl) fun C _=>?_
    try simp(maxSteps:=999999) (disch:=omega) only[go_sem,ξ,ζ,f9,f10,f11,f1,f2,e1,e2,decide_true,decide_false]
    refine caN (by exact EKids_ok hk) ?_;rintro _ g1 s1 rfl
    try simp(maxSteps:=999999) (disch:=omega) only[go_sem,ξ,ζ,f9,f10,f11,f1,f2,e1,e2,decide_true,decide_false,hm',q1,decide_true]
    all_goals rfl
   by_cases q2:arg > 0
   ·refine⟨false,fun h=>(by cases h),?_⟩
    rintro h0 h _ v a c ⟨a1,m1,c1,a2,m2,c2,rfl,hw⟩
    refine Spec.go [] Tryz.func153 rfl rfl (by kernel_rfl) fun C _=>?_
    try simp(maxSteps:=999999) (disch:=omega) only[go_sem,ξ,ζ,f9,f10,f11,f1,f2,e1,e2,decide_true,decide_false]
    refine caN (by exact EKids_ok hk) ?_;rintro _ g1 s1 rfl
    try simp(maxSteps:=999999) (disch:=omega) only[go_sem,ξ,ζ,f9,f10,f11,f1,f2,e1,e2,decide_true,decide_false,hm',q1,q2,decide_true,decide_false]
    all_goals rfl
   cases hnm:name.toList == (⟨#[]⟩:ByteArray).toList with
   | false=>
    refine⟨false,fun h=>(by cases h),?_⟩
    rintro h0 h _ v a c ⟨a1,m1,c1,a2,m2,c2,rfl,hw⟩
    refine Spec.go [] Tryz.func153 rfl rfl (by kernel_rfl) fun C _=>?_
    try simp(maxSteps:=999999) (disch:=omega) only[go_sem,ξ,ζ,f9,f10,f11,f1,f2,e1,e2,decide_true,decide_false]
    refine caN (by exact EKids_ok hk) ?_;rintro _ g1 s1 rfl
    try simp(maxSteps:=999999) (disch:=omega) only[go_sem,ξ,ζ,f9,f10,f11,f1,f2,e1,e2,decide_true,decide_false,hm',q1,q2,decide_false,hnm,Bool.not_false]
    all_goals rfl
   | true=>
    by_cases hl:lg num.1 num.2.1 num.2.2
    ·refine⟨false,fun h=>(by cases h),?_⟩
     rintro h0 h _ v a c ⟨a1,m1,c1,a2,m2,c2,rfl,hw⟩
     refine Spec.go [] Tryz.func153 rfl rfl (by kernel_rfl) fun C _=>?_
     try simp(maxSteps:=999999) (disch:=omega) only[go_sem,ξ,ζ,f9,f10,f11,f1,f2,e1,e2,decide_true,decide_false]
     refine caN (by exact EKids_ok hk) ?_;rintro _ g1 s1 rfl
     try simp(maxSteps:=999999) (disch:=omega) only[go_sem,ξ,ζ,f9,f10,f11,f1,f2,e1,e2,decide_true,decide_false,hm',q1,q2,decide_false,hnm,Bool.not_true]
     refine caN (by exact Gm (h:=g1) hw hl) ?_;rintro _ g2 s2 ⟨_,_,_,_,_,_,_,rfl⟩
     try simp(maxSteps:=999999) (disch:=omega) only[go_sem,ξ,ζ,f9,f10,f11,f1,f2,e1,e2,decide_true,decide_false]
     all_goals rfl
    refine⟨decide (0≤sgn3 (qof num.1 num.2.1 num.2.2)),fun _=>⟨rfl,fun h=>absurd h (by omega)⟩,?_⟩
    rintro h0 h _ v a c ⟨a1,m1,c1,a2,m2,c2,rfl,hw⟩
    refine Spec.go [] Tryz.func153 rfl rfl (by kernel_rfl) fun C _=>?_
    try simp(maxSteps:=999999) (disch:=omega) only[go_sem,ξ,ζ,f9,f10,f11,f1,f2,e1,e2,decide_true,decide_false]
    refine caN (by exact EKids_ok hk) ?_;rintro _ g1 s1 rfl
    try simp(maxSteps:=999999) (disch:=omega) only[go_sem,ξ,ζ,f9,f10,f11,f1,f2,e1,e2,decide_true,decide_false,hm',q1,q2,decide_false,hnm,Bool.not_true]
    refine caN (by exact sN (h:=g1) hw hl) ?_;rintro _ g2 s2 ⟨_,rfl,q3⟩;obtain⟨_,_,_,_,_,_,_,rfl,q3⟩:=q3.sa
    try simp(maxSteps:=999999) (disch:=omega) only[go_sem,ξ,ζ,f9,f10,f11,f1,f2,e1,e2,decide_true,decide_false]
    refine caN (by exact dv (h:=g2) q3) ?_;rintro _ g3 s3 rfl
    try simp(maxSteps:=999999) (disch:=omega) only[go_sem,ξ,ζ]
    all_goals rfl
 have f9:(op == 9)=false:=by simp;omega
 have f10:(op == 10)=false:=by simp;omega
 have f11:(op == 11)=false:=by simp;omega
 have f1:(op == 1)=false:=by simp;omega
 have f2:(op == 2)=false:=by simp;omega
 have e1:(op != 1)=true:=by simp;omega
 have e2:(op != 2)=true:=by simp;omega
 cases hk:kdE op with
 | none=>
  refine⟨false,fun h=>(by cases h),?_⟩
  rintro h0 h _ v a c ⟨a1,m1,c1,a2,m2,c2,rfl,hw⟩
  refine Spec.go [] Tryz.func153 rfl rfl (by kernel_rfl) fun C _=>?_
  try simp(maxSteps:=999999) (disch:=omega) only[go_sem,ξ,ζ,f9,f10,f11,f1,f2,e1,e2,decide_true,decide_false]
  refine caN (by exact EKids_no hk) ?_;rintro _ g1 s1 rfl
  try simp(maxSteps:=999999) (disch:=omega) only[go_sem,ξ,ζ,f9,f10,f11,f1,f2,e1,e2,decide_true,decide_false]
  all_goals rfl
 | some m=>
  by_cases hm:¬m=n
  ·have hm':((n:Int) != (m:Int))=true:=by simp;omega
   refine⟨false,fun h=>(by cases h),?_⟩
   rintro h0 h _ v a c ⟨a1,m1,c1,a2,m2,c2,rfl,hw⟩
   refine Spec.go [] Tryz.func153 rfl rfl (by kernel_rfl) fun C _=>?_
   try simp(maxSteps:=999999) (disch:=omega) only[go_sem,ξ,ζ,f9,f10,f11,f1,f2,e1,e2,decide_true,decide_false]
   refine caN (by exact EKids_ok hk) ?_;rintro _ g1 s1 rfl
   try simp(maxSteps:=999999) (disch:=omega) only[go_sem,ξ,ζ,f9,f10,f11,f1,f2,e1,e2,decide_true,decide_false,hm']
   all_goals rfl
  obtain rfl:m=n:=by omega
  have hm':((m:Int) != (m:Int))=false:=by simp
  by_cases q1:arg < 0
  ·refine⟨false,fun h=>(by cases h),?_⟩
   rintro h0 h _ v a c ⟨a1,m1,c1,a2,m2,c2,rfl,hw⟩
   refine Spec.go [] Tryz.func153 rfl rfl (by kernel_rfl) fun C _=>?_
   try simp(maxSteps:=999999) (disch:=omega) only[go_sem,ξ,ζ,f9,f10,f11,f1,f2,e1,e2,decide_true,decide_false]
   refine caN (by exact EKids_ok hk) ?_;rintro _ g1 s1 rfl
   try simp(maxSteps:=999999) (disch:=omega) only[go_sem,ξ,ζ,f9,f10,f11,f1,f2,e1,e2,decide_true,decide_false,hm',q1,decide_true]
   all_goals rfl
  by_cases q2:arg > 0
  ·refine⟨false,fun h=>(by cases h),?_⟩
   rintro h0 h _ v a c ⟨a1,m1,c1,a2,m2,c2,rfl,hw⟩
   refine Spec.go [] Tryz.func153 rfl rfl (by kernel_rfl) fun C _=>?_
   try simp(maxSteps:=999999) (disch:=omega) only[go_sem,ξ,ζ,f9,f10,f11,f1,f2,e1,e2,decide_true,decide_false]
   refine caN (by exact EKids_ok hk) ?_;rintro _ g1 s1 rfl
   try simp(maxSteps:=999999) (disch:=omega) only[go_sem,ξ,ζ,f9,f10,f11,f1,f2,e1,e2,decide_true,decide_false,hm',q1,q2,decide_true,decide_false]
   all_goals rfl
  cases hnm:name.toList == (⟨#[]⟩:ByteArray).toList with
  | false=>
   refine⟨false,fun h=>(by cases h),?_⟩
   rintro h0 h _ v a c ⟨a1,m1,c1,a2,m2,c2,rfl,hw⟩
   refine Spec.go [] Tryz.func153 rfl rfl (by kernel_rfl) fun C _=>?_
   try simp(maxSteps:=999999) (disch:=omega) only[go_sem,ξ,ζ,f9,f10,f11,f1,f2,e1,e2,decide_true,decide_false]
   refine caN (by exact EKids_ok hk) ?_;rintro _ g1 s1 rfl
   try simp(maxSteps:=999999) (disch:=omega) only[go_sem,ξ,ζ,f9,f10,f11,f1,f2,e1,e2,decide_true,decide_false,hm',q1,q2,decide_false,hnm,Bool.not_false]
   all_goals rfl
  | true=>
   refine⟨decide (num.2.1=0),fun _=>⟨rfl,fun h=>absurd h (by omega)⟩,?_⟩
   rintro h0 h _ v a c ⟨a1,m1,c1,a2,m2,c2,rfl,hw⟩
   refine Spec.go [] Tryz.func153 rfl rfl (by kernel_rfl) fun C _=>?_
   try simp(maxSteps:=999999) (disch:=omega) only[go_sem,ξ,ζ,f9,f10,f11,f1,f2,e1,e2,decide_true,decide_false]
   refine caN (by exact EKids_ok hk) ?_;rintro _ g1 s1 rfl
   try simp(maxSteps:=999999) (disch:=omega) only[go_sem,ξ,ζ,f9,f10,f11,f1,f2,e1,e2,decide_true,decide_false,hm',q1,q2,decide_false,hnm,Bool.not_true]
   refine caN (by exact OfRaw_spec (h:=g1) hw) ?_;rintro _ g3 s3 q3
   try simp(maxSteps:=999999) (disch:=omega) only[go_sem,ξ,ζ]
   refine caN (by exact bU q3) ?_;rintro _ g4 s4 rfl
   try simp(maxSteps:=999999) (disch:=omega) only[go_sem,ξ,ζ]
   all_goals rfl
end Go.Q
