/-
  Boxes, and what stands on it. Conditions: each theorem's own.
-/
import Derived.Test.YtpipfclemmbmcaaGreatDoorK747706PkG
import Derived.Test.YtpipfclemmbmcaaGreatDoorK3e8d59PkI
import Derived.Test.YtpipfclemmbmcaaGreatDoorK17bf0dPkM
import Derived.Test.YtpipfclemmbmcaaGreatDoorKb333b1PkN
import Derived.Test.YtpipfclemmbmcaaGreatDoorKe57a31PkL
import Derived.Test.YtpipfclemmbmcaaGreatDoorK32edc0PkC
set_option linter.unusedVariables false
set_option linter.unusedSimpArgs false
open Nat renaming reduceBEq→ξ,reduceAdd→ζ,le_trans→χ,mul_le_mul_right→ψ,le_refl→η,mul_le_mul→qAk,zero_le→qBh,lt_or_ge→qBj,one_mul→qBm
open Bool renaming and_eq_true→φ,false_eq_true→qAw
open List renaming length_append→qAp,all_eq_true→qBd
namespace Go.Q
open Go.Proofs
set_option maxRecDepth 100000
set_option maxHeartbeats 8000000
theorem OwnRat_spec {h0 h:PH} [Le h0 h] {v:Value} {neg:Bool} {n d:Nat} (hv:Rw h0 v neg n d):Spec mach 72 #[v] h (fun v h'=>Rw h' v neg n d) NP:=by
 obtain⟨a,c,xs,a',c',ys,rfl,hx,hy,rfl,rfl,lx,ly⟩:=hv
 have k1:=fun {h} [Le h0 h]=>CloneA (h:=h) hx (by omega)
 have k2:=fun {h} [Le h0 h]=>CloneA (h:=h) hy (by omega)
 refine Spec.go [(1,.o [0,1,2,3,5,6,4,7,8,9])] Tryz.func72 rfl rfl (by kernel_rfl) fun C _=>?_
 try simp(maxSteps:=999999) (disch:=omega) only[go_sem,ξ,ζ]
 refine caN (by exact k1) ?_;rintro v1 h1 s1 ⟨_,_,rfl,q1⟩
 try simp(maxSteps:=999999) (disch:=omega) only[go_sem,ξ,ζ]
 refine caN (by exact k2) ?_;rintro v2 h2 s2 ⟨_,_,rfl,q2⟩
 try simp(maxSteps:=999999) (disch:=omega) only[go_sem,ξ,ζ]
 exact⟨_,_,_,_,_,_,rfl,q1.to,q2,rfl,rfl,lx,ly⟩
theorem Own_spec {h0 h:PH} [Le h0 h] {v:Value} {x:RI} (hv:Iv h0 v x):Spec mach 33 #[v] h (fun v h'=>Iv h' v x) NP:=by
 obtain⟨_,_,_,_,_,_,_,_,_,_,_,_,rfl,h1,h2⟩:=hv.sa
 have k1:=fun {h} [Le h0 h]=>OwnRat_spec (h:=h) h1
 have k2:=fun {h} [Le h0 h]=>OwnRat_spec (h:=h) h2
 refine Spec.go [(1,.o [0,1,3,4,6,7,8,9,2,5,10,11])] Tryz.func33 rfl rfl (by kernel_rfl) fun C _=>?_
 try simp(maxSteps:=999999) (disch:=omega) only[go_sem,ξ,ζ]
 refine caN (by exact k1) ?_;rintro v1 h1 s1 q1;obtain⟨_,_,_,_,_,_,_,rfl,q1⟩:=q1.sa
 try simp(maxSteps:=999999) (disch:=omega) only[go_sem,ξ,ζ]
 refine caN (by exact k2) ?_;rintro v2 h2 s2 q2;obtain⟨_,_,_,_,_,_,_,rfl,q2⟩:=q2.sa
 try simp(maxSteps:=999999) (disch:=omega) only[go_sem,ξ,ζ]
 exact Iv.mk q1.to q2 _ _
abbrev Sd1:=ByteArray×RI
def Sv (h:PH) (v:Value) (s:Sd1):Prop:=∃b1 a1 m1 c1 a2 m2 c2 b2 a3 m3 c3 a4 m4 c4 l u,v=.agg #[.string s.1,.bool b1,.slice a1 m1 c1,.slice a2 m2 c2,.bool b2,.slice a3 m3 c3,.slice a4 m4 c4,.bool l,.bool u]∧Iv h (.agg #[.bool b1,.slice a1 m1 c1,.slice a2 m2 c2,.bool b2,.slice a3 m3 c3,.slice a4 m4 c4,.bool l,.bool u]) s.2
def Boxv (h:PH) (v:Value) (l:List Sd1):Prop:=∃a c,v=.slice a l.length c∧l.length≤2^30∧∀i s,l[i]?=some s→∃ad b1 a1 m1 c1 a2 m2 c2 b2 a3 m3 c3 a4 m4 c4 e u,a=some ad∧
 (∀j v,([.string s.1,.bool b1,.slice a1 m1 c1,.slice a2 m2 c2,.bool b2,.slice a3 m3 c3,.slice a4 m4 c4,.bool e,.bool u]:List Value)[j]?=some v→h.at ((ad.add (i*9)).add j)=some v)∧
 Iv h (.agg #[.bool b1,.slice a1 m1 c1,.slice a2 m2 c2,.bool b2,.slice a3 m3 c3,.slice a4 m4 c4,.bool e,.bool u]) s.2
theorem Boxv.to {h h':PH} {v:Value} {l:List Sd1} (r:Boxv h v l) [t:Le h h']:Boxv h' v l:=by
 obtain⟨a,c,rfl,hl,k⟩:=r
 refine⟨a,c,rfl,hl,fun i s hi=>?_⟩
 obtain⟨ad,b1,a1,m1,c1,a2,m2,c2,b2,a3,m3,c3,a4,m4,c4,e,u,h1,h2,h3⟩:=k i s hi
 exact⟨ad,b1,a1,m1,c1,a2,m2,c2,b2,a3,m3,c3,a4,m4,c4,e,u,h1,fun j v hj=>t.sub.at (h2 j v hj),h3.to⟩
theorem Boxv.sa {h:PH} {v:Value} {l:List Sd1} (r:Boxv h v l):∃a m c,v=.slice a m c:=let ⟨a,c,h1,_⟩:=r;⟨a,_,c,h1⟩
theorem add_1 {a:Addr} {n j:Nat}:({block:=(a.add n).block,off:=(a.add n).off+1}:Addr).add j=(a.add n).add (j+1):=by
 unfold Addr.add
 split<;>split<;>simp_all<;>omega
def fnd (l:List Sd1) (s:ByteArray):Option Nat:=l.findIdx? fun x=>x.1.toList == s.toList
theorem Index1 {h0 h:PH} [Le h0 h] {v:Value} {x:Sd1} {s:ByteArray} {b:Nat} (hv:Sv h0 v x) (hb:h b=some #[.string s]):Spec mach 71 #[v,.pointer (some ⟨b,0,none⟩)] h (fun r _=>r=.bool (x.1.toList == s.toList)) NP:=by
 obtain⟨_,_,_,_,_,_,_,_,_,_,_,_,_,_,_,_,rfl,_⟩:=hv
 refine Spec.go [] Tryz.func71 rfl rfl (by kernel_rfl) fun C _=>?_
 try simp(maxSteps:=999999) (disch:=omega) only[go_sem,ξ,ζ]
 refine aE (aK hb) ?_
 try simp(maxSteps:=999999) (disch:=omega) only[go_sem,ξ,ζ]
theorem IndexFunc_spec {h0 h:PH} [Le h0 h] {v:Value} {l:List Sd1} {s:ByteArray} {b:Nat} (hv:Boxv h0 v l) (hb:h0 b=some #[.string s]):Spec mach 70 #[v,.func (.func 71) #[] #[.pointer (some ⟨b,0,none⟩)]] h (fun r _=>r=.int .i64 (match fnd l s with |some i=>(i:Int) |none=>-1)) NP:=by
 obtain⟨a,c,rfl,hl,k⟩:=hv
 refine Spec.go [] Tryz.func70 rfl rfl (by kernel_rfl) fun C _=>?_
 try simp(maxSteps:=999999) (disch:=omega) only[go_sem,ξ,ζ]
 refine lp [] (fun i:Nat=>⟨[(0,.v (.slice a l.length c)),(1,.v (.func (.func 71) #[] #[.pointer (some ⟨b,0,none⟩)])),(7,.v (.int .i64 l.length)),(8,.v (.int .i64 i))],[]⟩) (fun i h'=>Le h0 h'∧i≤l.length∧∀j x,j < i→l[j]?=some x→(x.1.toList == s.toList)=false) (fun i=>l.length - i) 0 ?_ ⟨inferInstance,qBh _,fun j w hj=>absurd hj (by omega)⟩ (by kernel_rfl) ?_
 ·try simp(maxSteps:=999999) (disch:=omega) only[go_sem,ξ,ζ]
  all_goals rfl
 rintro i h2 ⟨le2,hi,hj⟩
 by_cases hlt:(i:Int) < l.length
 ·obtain⟨x,hx⟩:∃x,l[i]?=some x:=⟨_,List.getElem?_eq_getElem (by omega)⟩
  obtain⟨ad,b1,a1,m1,c1,a2,m2,c2,b2,a3,m3,c3,a4,m4,c4,e,u,rfl,hat,hiv⟩:=k i x hx
  try simp(maxSteps:=999999) (disch:=omega) only[go_sem,ξ,ζ,hlt,decide_true]
  refine Exists.intro [_,_,_,_,_,_,_,_,_] (And.intro rfl (And.intro (fun j v hj=>le2.sub.at (hat j v hj)) ?_))
  try simp(maxSteps:=999999) (disch:=omega) only[go_sem,ξ,ζ]
  refine caN (by exact Index1 (h0:=h2) ⟨_,_,_,_,_,_,_,_,_,_,_,_,_,_,_,_,rfl,hiv.to⟩ (le2.sub _ _ hb)) ?_;rintro v3 h3 s3 rfl
  try simp(maxSteps:=999999) (disch:=omega) only[go_sem,ξ,ζ]
  cases e:(x.1.toList == s.toList) with
  | true=>
   have ef:fnd l s=some i:=by
    unfold fnd
    refine List.findIdx?_eq_some_iff_getElem.2 ⟨by omega,?_,fun j k=>?_⟩
    ·rw[List.getElem?_eq_getElem (by omega)] at hx
     cases hx;exact e
    ·have:=hj j _ k (List.getElem?_eq_getElem (by omega))
     simpa using this
   rw[ef]
   try simp(maxSteps:=999999) (disch:=omega) only[go_sem,ξ,ζ,e]
   all_goals rfl
  | false=>
   try simp(maxSteps:=999999) (disch:=omega) only[go_sem,ξ,ζ,e]
   dsimp only[lpE];refine⟨i+1,?_,⟨inferInstance,by omega,fun j y k hy=>?_⟩,by omega⟩
   ·try simp(maxSteps:=999999) (disch:=omega) only[go_sem,ξ,ζ]
    all_goals rfl
   ·rcases qBj j i with g |g
    ·exact hj j y g hy
    ·obtain rfl:j=i:=by omega
     rw[hx] at hy
     cases hy
     exact e
 ·have ef:fnd l s=none:=by
   unfold fnd
   refine List.findIdx?_eq_none_iff.2 fun x hx=>?_
   obtain⟨j,h⟩:=List.getElem?_of_mem hx
   have:=(List.getElem?_eq_some_iff.1 h).1
   exact hj j x (by omega) h
  rw[ef]
  try simp(maxSteps:=999999) (disch:=omega) only[go_sem,ξ,ζ,hlt,decide_false]
  all_goals rfl
theorem Index_spec {h0 h:PH} [Le h0 h] {v:Value} {l:List Sd1} {s:ByteArray} (hv:Boxv h0 v l):Spec mach 32 #[v,.string s] h (fun r _=>r=.int .i64 (match fnd l s with |some i=>(i:Int) |none=>-1)) NP:=by
 have hv0:=hv
 obtain⟨_,_,_,rfl⟩:=hv.sa
 refine Spec.go [(1,.t (.p 0 (.s [0,1,2,3] .d)))] Tryz.func32 rfl rfl (by kernel_rfl) fun C _=>?_
 try simp(maxSteps:=999999) (disch:=omega) only[go_sem,ξ,ζ]
 intro b h1 st1 hb
 try simp(maxSteps:=999999) (disch:=omega) only[go_sem,ξ,ζ]
 have hb:=hb (by simp)
 refine caN (by exact IndexFunc_spec (h0:=h1) hv0.to hb) ?_;rintro v1 h2 s2 rfl
 try simp(maxSteps:=999999) (disch:=omega) only[go_sem,ξ,ζ]
def Fnd (h:PH) (r:Value) (l:List Sd1) (s:ByteArray):Prop:=match fnd l s with
 |none=>r=.tuple #[zIv,.bool false]
 |some i=>∃v x,l[i]?=some x∧r=.tuple #[v,.bool true]∧Iv h v x.2
theorem BFind_spec {h0 h:PH} [Le h0 h] {v:Value} {l:List Sd1} {s:ByteArray} (hv:Boxv h0 v l):Spec mach 9 #[v,.string s] h (fun r h'=>Fnd h' r l s) NP:=by
 have kI:=fun {h} [Le h0 h]=>Index_spec (h:=h) (s:=s) hv
 unfold Fnd
 obtain⟨a,c,rfl,hl,k⟩:=hv
 cases e:fnd l s with
 | none=>
  rw[e] at kI
  refine Spec.go [] Tryz.func9 rfl rfl (by kernel_rfl) fun C _=>?_
  try simp(maxSteps:=999999) (disch:=omega) only[go_sem,ξ,ζ]
  refine caN (by exact kI) ?_;rintro v1 h1 s1 rfl
  try simp(maxSteps:=999999) (disch:=omega) only[go_sem,ξ,ζ]
  all_goals rfl
 | some i=>
  rw[e] at kI
  have hi:i < l.length:=(List.findIdx?_eq_some_iff_getElem.1 e).1
  obtain⟨x,hx⟩:∃x,l[i]?=some x:=⟨_,List.getElem?_eq_getElem hi⟩
  obtain⟨ad,b1,a1,m1,c1,a2,m2,c2,b2,a3,m3,c3,a4,m4,c4,f,u,rfl,hat,hiv⟩:=k i x hx
  refine Spec.go [] Tryz.func9 rfl rfl (by kernel_rfl) fun C _=>?_
  try simp(maxSteps:=999999) (disch:=omega) only[go_sem,ξ,ζ]
  refine caN (by exact kI) ?_;rintro v1 h1 s1 rfl
  try simp(maxSteps:=999999) (disch:=omega) only[go_sem,ξ,ζ]
  refine Exists.intro [_,_,_,_,_,_,_,_] (And.intro rfl (And.intro (fun j v hj=>by rw[add_1];exact s1.sub.at ((inferInstance:Le h0 h).sub.at (hat (j+1) v hj))) ?_))
  try simp(maxSteps:=999999) (disch:=omega) only[go_sem,ξ,ζ]
  refine caN (by exact Own_spec (hiv.to (h':=h1))) ?_;rintro v2 h2 s2 q2;obtain⟨_,_,_,_,_,_,_,_,_,_,_,_,rfl,q3⟩:=q2.sa
  try simp(maxSteps:=999999) (disch:=omega) only[go_sem,ξ,ζ]
  exact⟨_,_,hx,rfl,q2⟩
open Go.Proofs Go.Proofs.YtpipfclemmbmcaaGreatDoor
open Go.ChangeShapes Go.WideShapes Go.ChangeAt Go.RowKit
theorem flSi:flds Tryz.prog 59=some [(9,0),(27,1)]:=by kernel_rfl
theorem unSi:Tryz.prog.underlying 22=some (.slice 59):=by kernel_rfl
theorem unSt:Tryz.prog.underlying 9=some .string:=by kernel_rfl
theorem ceSt:Tryz.prog.cellsOf 9=1:=by kernel_rfl
theorem ceSi:Tryz.prog.cellsOf 59=9:=by kernel_rfl
section
variable {H:Type} {enc:TypeId×Value→H} {W:World} {sp:Nat→Bool} {held:Bool}
theorem open_side {fuel:Nat} {cs:List Value} {x:DataW H×List MemPlace} (h:DataW.trod enc Tryz.prog W 0 sp held fuel 59 cs=some x) {B:Nat} (hB:B≤1048576) (hk:Rows.uptoBulk x.1≤B):
  ∃ (s:ByteArray) (y:RI) (a1:Option Addr) (m1 c1:Nat) (a2:Option Addr) (m2 c2:Nat) (a3:Option Addr) (m3 c3:Nat) (a4:Option Addr) (m4 c4:Nat),cs=[.string s,.bool y.n1,.slice a1 m1 c1,.slice a2 m2 c2,.bool y.n2,.slice a3 m3 c3,.slice a4 m4 c4,.bool y.l,.bool y.u]∧
   Iv (pub W) (.agg #[.bool y.n1,.slice a1 m1 c1,.slice a2 m2 c2,.bool y.n2,.slice a3 m3 c3,.slice a4 m4 c4,.bool y.l,.bool y.u]) y:=by
 obtain⟨fs,hu,hf⟩:=flds_some flSi
 obtain⟨xs,n,rfl,rfl,hl,hsz,hg⟩:=DataW.trod_struct hu h
 rw[ceSi] at hl
 have hfs:fs.size=2:=by
  have:=congrArg List.length hf
  simpa using this
 match cs,hl with
 |[c0,c1,c2,c3,c4,c5,c6,c7,c8],_=>
 have get:∀(i t o:Nat),(fs.toList.map fun f=>(f.type,f.offset))[i]?=some (t,o)→∃f:Field,fs[i]?=some f∧f.type=t∧f.offset=o:=by
  intro i t o hi
  rw[List.getElem?_map,Option.map_eq_some_iff] at hi
  obtain⟨f,h1,h2⟩:=hi
  cases h2
  exact⟨f,by simpa using h1,rfl,rfl⟩
 obtain⟨f0,k0,e0,o0⟩:=get 0 9 0 (by rw[hf];rfl)
 obtain⟨f1,k1,e1,o1⟩:=get 1 27 1 (by rw[hf];rfl)
 have g0:=hg 0 f0 k0
 have g1:=hg 1 f1 k1
 rw[e0,o0,ceSt] at g0
 rw[e1,o1,ce26] at g1
 rw[hfs] at hsz
 match xs,hsz with
 |[y0,y1],_=>
 simp only[List.drop_zero,List.take_succ_cons,List.take_zero,List.drop_succ_cons,List.getElem?_cons_zero,List.getElem?_cons_succ] at g0 g1
 simp only[Rows.uptoBulk,List.map_cons,List.map_nil,Rows.uptoBulkAll] at hk
 obtain⟨s,e0,_⟩:=DataW.trod_string unSt g0
 obtain⟨y,hy⟩:=open_iv g1 hB (by omega)
 obtain⟨a1,m1,c1',a2,m2,c2',a3,m3,c3',a4,m4,c4',e2,_,_⟩:=hy.sa
 cases e0
 simp only[Value.agg.injEq,Array.mk.injEq,List.cons.injEq,and_true] at e2
 obtain⟨rfl,rfl,rfl,rfl,rfl,rfl,rfl,rfl⟩:=e2
 exact⟨s,y,a1,m1,c1',a2,m2,c2',a3,m3,c3',a4,m4,c4',rfl,hy⟩
theorem list_of {α:Type} (P:Nat→α→Prop):∀n,(∀i,i < n→∃s,P i s)→∃l:List α,l.length=n∧∀i s,l[i]?=some s→P i s:=by
 intro n
 induction n with
 |zero=>exact fun _=>⟨[],rfl,fun i s h=>by simp at h⟩
 | succ n ih=>
  intro h
  obtain⟨l,hl,k⟩:=ih fun i hi=>h i (by omega)
  obtain⟨s,hs⟩:=h n (by omega)
  refine⟨l ++[s],by simp[hl],fun i t hi=>?_⟩
  rcases qBj i l.length with g |g
  ·rw[List.getElem?_append_left g] at hi;exact k i t hi
  ·have:i < (l ++[s]).length:=(List.getElem?_eq_some_iff.1 hi).1
   simp only[qAp,List.length_singleton] at this
   obtain rfl:i=l.length:=by omega
   rw[List.getElem?_append_right (η _),Nat.sub_self] at hi
   cases hi;rw[hl];exact hs
theorem open_box {fuel:Nat} {v:Value} {x:DataW H×List MemPlace} (h:DataW.trod enc Tryz.prog W 0 sp held fuel 22 [v]=some x) {B:Nat} (hB:B≤1048576) (hk:Rows.uptoBulk x.1≤B):
  ∃l:List Sd1,Boxv (pub W) v l:=by
 rcases DataW.trod_slice unSi h with⟨e,_⟩ |⟨a,len,cap,elems,rest,n,_,e,rfl,_,hl,hm,hlen,hel,_,_⟩
 ·cases e
  exact⟨[],none,0,rfl,by simp,fun i s h=>by simp at h⟩
 cases e
 simp only[Rows.uptoBulk] at hk
 have b1:=bulk_len (H:=H) (elems.map (·.1))
 rw[List.length_map,hlen] at b1
 obtain⟨l,hll,hP⟩:=list_of (fun i (s:Sd1)=>∃(a1:Option Addr) (m1 c1:Nat) (a2:Option Addr) (m2 c2:Nat) (a3:Option Addr) (m3 c3:Nat) (a4:Option Addr) (m4 c4:Nat),
   (∀j v,([.string s.1,.bool s.2.n1,.slice a1 m1 c1,.slice a2 m2 c2,.bool s.2.n2,.slice a3 m3 c3,.slice a4 m4 c4,.bool s.2.l,.bool s.2.u]:List Value)[j]?=some v→(pub W).at ((a.add (i*9)).add j)=some v)∧
   Iv (pub W) (.agg #[.bool s.2.n1,.slice a1 m1 c1,.slice a2 m2 c2,.bool s.2.n2,.slice a3 m3 c3,.slice a4 m4 c4,.bool s.2.l,.bool s.2.u]) s.2) len fun i hi=>by
  have he:=hel i hi
  obtain⟨y,hy⟩:∃y,elems[i]?=some y:=⟨_,List.getElem?_eq_getElem (by omega)⟩
  rw[hy,Option.bind_eq_some_iff,ceSi] at he
  obtain⟨cs,hc,ht⟩:=he
  have hb:=bulk_mem (d:=y.1) (l:=elems.map (·.1)) (List.mem_map.2 ⟨y,List.mem_of_getElem? hy,rfl⟩)
  obtain⟨s,z,a1,m1,c1,a2,m2,c2,a3,m3,c3,a4,m4,c4,rfl,hz⟩:=open_side ht hB (by omega)
  have hc':=World.cells?_some hc
  refine⟨(s,z),a1,m1,c1,a2,m2,c2,a3,m3,c3,a4,m4,c4,fun j v hj=>?_,hz⟩
  have:j < 9:=(List.getElem?_eq_some_iff.1 hj).1
  rw[pub_at,hc'.2.2 j this]
  exact hj
 refine⟨l,some a,cap,by rw[hll],by omega,fun i s hi=>?_⟩
 obtain⟨a1,m1,c1,a2,m2,c2,a3,m3,c3,a4,m4,c4,q1,q2⟩:=hP i s hi
 exact⟨a,_,a1,m1,c1,a2,m2,c2,_,a3,m3,c3,a4,m4,c4,_,_,rfl,q1,q2⟩
end
namespace NS
def lo0:NS→Rat
 |.e=>0
 |.i a _=>a.getD 0
def hi0:NS→Rat
 |.e=>0
 |.i _ b=>b.getD 0
def loN:NS→Bool
 |.e=>false
 |.i a _=>a.isNone
def hiN:NS→Bool
 |.e=>false
 |.i _ b=>b.isNone
end NS
def Rr (h:PH) (v:Value) (x:NS):Prop:=∃b1 x1 y1 b2 x2 y2,v=.agg #[.bool b1,x1,y1,.bool b2,x2,y2,.bool x.loN,.bool x.hiN,.bool x.void]∧Qr h (.agg #[.bool b1,x1,y1]) x.lo0∧Qr h (.agg #[.bool b2,x2,y2]) x.hi0
theorem Rr.to {h h':PH} {v:Value} {x:NS} (r:Rr h v x) [Le h h']:Rr h' v x:=let ⟨a,b,c,d,e,f,h1,h2,h3⟩:=r;⟨a,b,c,d,e,f,h1,h2.to,h3.to⟩
theorem Rr.sa {h:PH} {v:Value} {x:NS} (r:Rr h v x):∃b1 a1 m1 c1 a2 m2 c2 b2 a3 m3 c3 a4 m4 c4,v=.agg #[.bool b1,.slice a1 m1 c1,.slice a2 m2 c2,.bool b2,.slice a3 m3 c3,.slice a4 m4 c4,.bool x.loN,.bool x.hiN,.bool x.void]∧
  Qr h (.agg #[.bool b1,.slice a1 m1 c1,.slice a2 m2 c2]) x.lo0∧Qr h (.agg #[.bool b2,.slice a3 m3 c3,.slice a4 m4 c4]) x.hi0:=by
 obtain⟨b1,x1,y1,b2,x2,y2,rfl,h1,h2⟩:=r
 obtain⟨_,_,_,_,_,_,_,e1,_⟩:=h1.sa
 obtain⟨_,_,_,_,_,_,_,e2,_⟩:=h2.sa
 simp only[Value.agg.injEq,Array.mk.injEq,List.cons.injEq,and_true] at e1 e2
 obtain⟨_,rfl,rfl⟩:=e1
 obtain⟨_,rfl,rfl⟩:=e2
 exact⟨_,_,_,_,_,_,_,_,_,_,_,_,_,_,rfl,h1,h2⟩
theorem HY:sz 0≤1:=by decide
theorem NS.le_ends {k:Nat} {x:NS} (hk:1≤k):x.le k↔sz x.lo0≤k∧sz x.hi0≤k:=by
 have h0:sz 0≤k:=χ HY hk
 cases x with
 |e=>simp[NS.le,NS.all,NS.lo0,NS.hi0,h0]
 |i a b=>cases a<;>cases b<;>simp[NS.le,NS.all,NS.lo0,NS.hi0,h0]
theorem i6 {h:PH}:Spec mach 80 #[] h (fun v h'=>Rr h' v .e) NP:=by
 refine Spec.go [] Tryz.func80 rfl rfl (by kernel_rfl) fun C _=>?_
 try simp(maxSteps:=999999) (disch:=omega) only[go_sem,ξ,ζ]
 exact⟨_,_,_,_,_,_,rfl,Qr.none _,Qr.none _⟩
theorem RefOf {h0 h:PH} [Le h0 h] {v:Value} {x:RI} (hv:Iv h0 v x) (g:x.big=false):Spec mach 39 #[v] h (fun v h'=>Rr h' v x.set) NP:=by
 obtain⟨a1,m1,c1,a2,m2,c2,a3,m3,c3,a4,m4,c4,rfl,hx,hy⟩:=hv.sa
 obtain⟨g1,g2⟩:=RI.small g
 have z1:sz (qof x.n1 x.a1 x.d1)≤2^30:=by unfold Go.Q.lg at g1;omega
 have z2:sz (qof x.n2 x.a2 x.d2)≤2^30:=by unfold Go.Q.lg at g2;omega
 obtain⟨n1,a1',d1,n2,a2',d2,l,u⟩:=x
 dsimp only at*
 unfold RI.set RI.lo RI.hi NS.mk'
 dsimp only
 obtain⟨q1,hq1⟩:∃q,qof n1 a1' d1=q:=⟨_,rfl⟩
 obtain⟨q2,hq2⟩:∃q,qof n2 a2' d2=q:=⟨_,rfl⟩
 have k1:=fun {h} [Le h0 h]=>bM (h:=h) hx
 have k2:=fun {h} [Le h0 h]=>bM (h:=h) hy
 rw[hq1] at z1 k1 ⊢
 rw[hq2] at z2 k2 ⊢
 cases l with
 | true=>
  cases u with
  | true=>
   refine Spec.go [] Tryz.func39 rfl rfl (by kernel_rfl) fun C _=>?_
   try simp(maxSteps:=999999) (disch:=omega) only[go_sem,ξ,ζ]
   exact⟨_,_,_,_,_,_,rfl,Qr.none _,Qr.none _⟩
  | false=>
   refine Spec.go [] Tryz.func39 rfl rfl (by kernel_rfl) fun C _=>?_
   try simp(maxSteps:=999999) (disch:=omega) only[go_sem,ξ,ζ]
   refine caN (by exact k2) ?_;rintro _ h1 _ f1;obtain⟨_,_,_,_,_,_,_,rfl,f1⟩:=f1.sa
   try simp(maxSteps:=999999) (disch:=omega) only[go_sem,ξ,ζ]
   exact⟨_,_,_,_,_,_,rfl,Qr.none _,f1.to⟩
 | false=>
  cases u with
  | true=>
   refine Spec.go [] Tryz.func39 rfl rfl (by kernel_rfl) fun C _=>?_
   try simp(maxSteps:=999999) (disch:=omega) only[go_sem,ξ,ζ]
   refine caN (by exact k1) ?_;rintro _ h1 _ f1;obtain⟨_,_,_,_,_,_,_,rfl,f1⟩:=f1.sa
   try simp(maxSteps:=999999) (disch:=omega) only[go_sem,ξ,ζ]
   exact⟨_,_,_,_,_,_,rfl,f1.to,Qr.none _⟩
  | false=>
   by_cases hlt:q2 < q1
   ·have e1:0 < cmpQ q1 q2:=by unfold cmpQ;grind
    simp only[ordO,hlt,decide_true,Bool.not_true,cond_false]
    refine Spec.go [] Tryz.func39 rfl rfl (by kernel_rfl) fun C _=>?_
    try simp(maxSteps:=999999) (disch:=omega) only[go_sem,ξ,ζ]
    refine caN (by exact k1) ?_;rintro _ h1 _ f1;obtain⟨_,_,_,_,_,_,_,rfl,f1⟩:=f1.sa
    try simp(maxSteps:=999999) (disch:=omega) only[go_sem,ξ,ζ]
    refine caN (by exact k2) ?_;rintro _ h2 _ f2;obtain⟨_,_,_,_,_,_,_,rfl,f2⟩:=f2.sa
    try simp(maxSteps:=999999) (disch:=omega) only[go_sem,ξ,ζ]
    refine caN (by exact av (f1.to (h':=h2)) f2 (by omega) (by omega)) ?_;rintro v3 h3 s3 rfl
    try simp(maxSteps:=999999) (disch:=omega) only[go_sem,ξ,ζ]
    refine caN (by exact i6) ?_;rintro v4 h4 s4 hv4;obtain⟨_,_,_,_,_,_,_,_,_,_,_,_,_,_,rfl,t1,t2⟩:=hv4.sa
    try simp(maxSteps:=999999) (disch:=omega) only[go_sem,ξ,ζ]
    exact⟨_,_,_,_,_,_,rfl,t1.to,t2.to⟩
   ·have e1:¬0 < cmpQ q1 q2:=by unfold cmpQ;grind
    simp only[ordO,hlt,decide_false,Bool.not_false,cond_true]
    refine Spec.go [] Tryz.func39 rfl rfl (by kernel_rfl) fun C _=>?_
    try simp(maxSteps:=999999) (disch:=omega) only[go_sem,ξ,ζ]
    refine caN (by exact k1) ?_;rintro _ h1 _ f1;obtain⟨_,_,_,_,_,_,_,rfl,f1⟩:=f1.sa
    try simp(maxSteps:=999999) (disch:=omega) only[go_sem,ξ,ζ]
    refine caN (by exact k2) ?_;rintro _ h2 _ f2;obtain⟨_,_,_,_,_,_,_,rfl,f2⟩:=f2.sa
    try simp(maxSteps:=999999) (disch:=omega) only[go_sem,ξ,ζ]
    refine caN (by exact av (f1.to (h':=h2)) f2 (by omega) (by omega)) ?_;rintro v3 h3 s3 rfl
    try simp(maxSteps:=999999) (disch:=omega) only[go_sem,ξ,ζ]
    exact⟨_,_,_,_,_,_,rfl,f1.to,f2.to⟩
theorem jp {h0 h:PH} [Le h0 h] {v:Value} {x:NS} (hv:Rr h0 v x) (hf:x.le (2^36)):Spec mach 56 #[v] h (fun v h'=>Cv h' v x) NP:=by
 rw[NS.le_ends (by decide)] at hf
 obtain⟨_,_,_,_,_,_,_,_,_,_,_,_,_,_,rfl,t1,t2⟩:=hv.sa
 cases x with
 | e=>
  dsimp only[NS.void]
  refine Spec.go [(3,.o [0,1,3,4,6,7,8,9,2,5,10,11])] Tryz.func56 rfl rfl (by kernel_rfl) fun C _=>?_
  try simp(maxSteps:=999999) (disch:=omega) only[go_sem,ξ,ζ]
  refine caN (by exact aF (n:=1) (by decide) (by decide)) ?_;rintro _ h1 _ f1;obtain⟨_,_,_,_,_,_,_,rfl,f1⟩:=f1.sa
  try simp(maxSteps:=999999) (disch:=omega) only[go_sem,ξ,ζ]
  refine caN (by exact cA f1 (by decide)) ?_;rintro _ h2 _ f2;obtain⟨_,_,_,_,_,_,_,rfl,f2⟩:=f2.sa
  try simp(maxSteps:=999999) (disch:=omega) only[go_sem,ξ,ζ]
  exact⟨_,_,_,_,_,_,rfl,f2.to,Cn.zero _⟩
 | i a b=>
  dsimp only[NS.void,NS.loN,NS.hiN,NS.lo0,NS.hi0] at*
  refine Spec.go [(3,.o [0,1,3,4,6,7,8,9,2,5,10,11])] Tryz.func56 rfl rfl (by kernel_rfl) fun C _=>?_
  try simp(maxSteps:=999999) (disch:=omega) only[go_sem,ξ,ζ]
  refine caN (by exact cA t1 hf.1) ?_;rintro _ h1 _ f1;obtain⟨_,_,_,_,_,_,_,rfl,f1⟩:=f1.sa
  try simp(maxSteps:=999999) (disch:=omega) only[go_sem,ξ,ζ]
  refine caN (by exact cA t2 hf.2) ?_;rintro _ h2 _ f2;obtain⟨_,_,_,_,_,_,_,rfl,f2⟩:=f2.sa
  try simp(maxSteps:=999999) (disch:=omega) only[go_sem,ξ,ζ]
  exact⟨_,_,_,_,_,_,rfl,f1.to,f2.to⟩
theorem eZ {h0 h:PH} [Le h0 h] {v:Value} {x:RI} (hv:Iv h0 v x):Spec mach 38 #[v] h (fun r _=>r=.bool x.big) NP:=by
 obtain⟨a1,m1,c1,a2,m2,c2,a3,m3,c3,a4,m4,c4,rfl,hx,hy⟩:=hv.sa
 have k1:=fun {h} [Le h0 h]=>jJ (h:=h) hx
 have k2:=fun {h} [Le h0 h]=>jJ (h:=h) hy
 unfold RI.big
 obtain⟨l1,e1⟩:∃b,decide (lg x.n1 x.a1 x.d1)=b:=⟨_,rfl⟩
 obtain⟨l2,e2⟩:∃b,decide (lg x.n2 x.a2 x.d2)=b:=⟨_,rfl⟩
 rw[e1] at k1 ⊢
 rw[e2] at k2 ⊢
 cases l1 with
 | true=>
  refine Spec.go [] Tryz.func38 rfl rfl (by kernel_rfl) fun C _=>?_
  try simp(maxSteps:=999999) (disch:=omega) only[go_sem,ξ,ζ]
  refine caN (by exact k1) ?_;rintro v1 h1 s1 rfl
  try simp(maxSteps:=999999) (disch:=omega) only[go_sem,ξ,ζ]
  all_goals rfl
 | false=>
  refine Spec.go [] Tryz.func38 rfl rfl (by kernel_rfl) fun C _=>?_
  try simp(maxSteps:=999999) (disch:=omega) only[go_sem,ξ,ζ]
  refine caN (by exact k1) ?_;rintro v1 h1 s1 rfl
  try simp(maxSteps:=999999) (disch:=omega) only[go_sem,ξ,ζ]
  refine caN (by exact k2) ?_;rintro v2 h2 s2 rfl
  try simp(maxSteps:=999999) (disch:=omega) only[go_sem,ξ,ζ]
def okS (l:List Sd1) (i:Nat):Bool:=match l[i]? with
 | some x=>nameB x.1 && (decide (i=0) || (match l[i - 1]? with
  |some y=>Op.bytesLess y.1.toList x.1.toList
  |none=>true)) && !x.2.big && !x.2.set.void
 |none=>true
def okB (l:List Sd1):Bool:=decide (l.length≤6) && (List.range l.length).all (okS l)
theorem okB_no {l:List Sd1} {i:Nat} (hi:i < l.length) (h:okS l i=false):okB l=false:=by
 unfold okB
 rw[Bool.and_eq_false_iff]
 right
 exact List.all_eq_false.2 ⟨i,List.mem_range.2 hi,by rw[h];decide⟩
theorem okB_yes {l:List Sd1} (hl:l.length≤6) (h:∀j,j < l.length→okS l j=true):okB l=true:=by
 unfold okB
 rw[decide_eq_true hl,Bool.true_and]
 exact qBd.2 fun j hj=>h j (List.mem_range.1 hj)
theorem BValid_spec {h0 h:PH} [Le h0 h] {v:Value} {l:List Sd1} (hv:Boxv h0 v l):Spec mach 12 #[v] h (fun r _=>r=.bool (okB l)) NP:=by
  obtain⟨a,c,rfl,hl,k⟩:=hv
  by_cases h6:(l.length:Int) > 6
  · have:okB l=false:=by unfold okB;rw[decide_eq_false (by omega)];rfl
    rw[this]
    refine Spec.go [] Tryz.func12 rfl rfl (by kernel_rfl) fun C _=>?_
    try simp(maxSteps:=999999) (disch:=omega) only[go_sem,ξ,ζ,h6,decide_true]
  · refine Spec.go [] Tryz.func12 rfl rfl (by kernel_rfl) fun C _=>?_
    try simp(maxSteps:=999999) (disch:=omega) only[go_sem,ξ,ζ,h6,decide_false]
    refine lp [] (fun i:Nat=>⟨[(0,.v (.slice a l.length c)),(10,.v (.slice a l.length c)),(11,.v (.int .i64 l.length)),(12,.v (.int .i64 i))],[]⟩) (fun i h'=>Le h0 h'∧i≤l.length∧∀j,j < i→okS l j=true) (fun i=>l.length - i) 0 ?_ ⟨inferInstance,qBh _,fun j hj=>absurd hj (by omega)⟩ (by kernel_rfl) ?_
    · try simp(maxSteps:=999999) (disch:=omega) only[go_sem,ξ,ζ]
      all_goals rfl
    rintro i h2 ⟨le2,hi,hj⟩
    by_cases hlt:(i:Int) < l.length
    · obtain⟨x,hx⟩:∃x,l[i]?=some x:=⟨_,List.getElem?_eq_getElem (by omega)⟩
      obtain⟨ad,b1,a1,m1,c1,a2,m2,c2,b2,a3,m3,c3,a4,m4,c4,e,u,rfl,hat,hiv⟩:=k i x hx
      try simp(maxSteps:=999999) (disch:=omega) only[go_sem,ξ,ζ,hlt,decide_true]
      refine Exists.intro [_,_,_,_,_,_,_,_,_] (And.intro rfl (And.intro (fun j v hj=>le2.sub.at (hat j v hj)) ?_))
      try simp(maxSteps:=999999) (disch:=omega) only[go_sem,ξ,ζ]
      refine caN (by exact IsName_spec) ?_;rintro v3 h3 s3 rfl
      try simp(maxSteps:=999999) (disch:=omega) only[go_sem,ξ,ζ]
      have big:x.2.big=true→okS l i=false:=fun g=>by unfold okS;rw[hx];simp[g]
      have voi:x.2.set.void=true→okS l i=false:=fun g=>by unfold okS;rw[hx];simp[g]
      have nam:nameB x.1=false→okS l i=false:=fun g=>by unfold okS;rw[hx];simp[g]
      have hi':i < l.length:=by omega
      cases hn:nameB x.1 with
      | false=>
        rw[okB_no hi' (nam hn)]
        try simp(maxSteps:=999999) (disch:=omega) only[go_sem,ξ,ζ,hn]
      | true=>
        have kE:=fun {h} [Le h2 h]=>sI (h:=h) (hiv.to (h':=h2))
        unfold RI.bo at kE
        have nxt:(decide (i=0) || (match l[i - 1]? with |some y=>Op.bytesLess y.1.toList x.1.toList |none=>true))=true→x.2.big=false→x.2.set.void=false→okS l i=true:=fun g1 g2 g3=>by
          unfold okS;rw[hx]
          show(nameB x.1 && _ && _ && _)=true
          rw[hn,g1,g2,g3];rfl
        by_cases i0:(i:Int) > 0
        · obtain⟨y,hy⟩:∃y,l[i - 1]?=some y:=⟨_,List.getElem?_eq_getElem (by omega)⟩
          obtain⟨ad',_,_,_,_,_,_,_,_,_,_,_,_,_,_,_,_,ea,hat',_⟩:=k (i - 1) y hy
          cases ea
          have hyat:h0.at (ad.add ((i - 1)*9))=some (.string y.1):=hat' 0 _ rfl
          have ew:((i:Int) - 1).toNat=i - 1:=by omega
          try simp(maxSteps:=999999) (disch:=omega) only[go_sem,ξ,ζ,hn,i0,decide_true,ew]
          refine aE ((inferInstance:Le h0 h3).sub.at hyat) ?_
          try simp(maxSteps:=999999) (disch:=omega) only[go_sem,ξ,ζ]
          cases hB:Op.bytesLess y.1.toList x.1.toList with
          | false=>
            rw[okB_no hi' (by unfold okS;rw[hx];simp only[hy,hB];rw[decide_eq_false (by omega)];simp)]
            try simp(maxSteps:=999999) (disch:=omega) only[go_sem,ξ,ζ,hB]
          | true=>
            try simp(maxSteps:=999999) (disch:=omega) only[go_sem,ξ,ζ,hB]
            cases gb:x.2.big with
            | true=>
              rw[gb,cond_true] at kE
              rw[okB_no hi' (big gb)]
              refine caN (by exact kE) ?_;rintro v4 h4 s4 q4;obtain rfl:v4=_:=q4
              try simp(maxSteps:=999999) (disch:=omega) only[go_sem,ξ,ζ]
            | false =>
              rw[gb,cond_false] at kE
              cases gv:x.2.set.void with
              | true=>
                rw[gv] at kE
                rw[okB_no hi' (voi gv)]
                refine caN (by exact kE) ?_;rintro v4 h4 s4 q4;obtain rfl:v4=_:=q4
                try simp(maxSteps:=999999) (disch:=omega) only[go_sem,ξ,ζ]
              | false=>
                rw[gv] at kE
                refine caN (by exact kE) ?_;rintro v4 h4 s4 q4;obtain rfl:v4=_:=q4
                try simp(maxSteps:=999999) (disch:=omega) only[go_sem,ξ,ζ]
                dsimp only[lpE];refine⟨i+1,?_,⟨inferInstance,by omega,fun j k=>?_⟩,by omega⟩
                · try simp(maxSteps:=999999) (disch:=omega) only[go_sem,ξ,ζ]
                  all_goals rfl
                · rcases qBj j i with g |g
                  · exact hj j g
                  · obtain rfl:j=i:=by omega
                    exact nxt (by rw[hy];simp[hB]) gb gv
        · try simp(maxSteps:=999999) (disch:=omega) only[go_sem,ξ,ζ,hn,i0,decide_false]
          cases gb:x.2.big with
          | true=>
            rw[gb,cond_true] at kE
            rw[okB_no hi' (big gb)]
            refine caN (by exact kE) ?_;rintro v4 h4 s4 q4;obtain rfl:v4=_:=q4
            try simp(maxSteps:=999999) (disch:=omega) only[go_sem,ξ,ζ]
          | false =>
            rw[gb,cond_false] at kE
            cases gv:x.2.set.void with
            | true=>
              rw[gv] at kE
              rw[okB_no hi' (voi gv)]
              refine caN (by exact kE) ?_;rintro v4 h4 s4 q4;obtain rfl:v4=_:=q4
              try simp(maxSteps:=999999) (disch:=omega) only[go_sem,ξ,ζ]
            | false=>
              rw[gv] at kE
              refine caN (by exact kE) ?_;rintro v4 h4 s4 q4;obtain rfl:v4=_:=q4
              try simp(maxSteps:=999999) (disch:=omega) only[go_sem,ξ,ζ]
              dsimp only[lpE];refine⟨i+1,?_,⟨inferInstance,by omega,fun j k=>?_⟩,by omega⟩
              · try simp(maxSteps:=999999) (disch:=omega) only[go_sem,ξ,ζ]
                all_goals rfl
              · rcases qBj j i with g |g
                · exact hj j g
                · obtain rfl:j=i:=by omega
                  exact nxt (by rw[decide_eq_true (by omega)];rfl) gb gv
    · rw[okB_yes (by omega) (fun j k=>hj j (by omega))]
      try simp(maxSteps:=999999) (disch:=omega) only[go_sem,ξ,ζ,hlt,decide_false]
theorem RBValid_spec {h0 h:PH} [Le h0 h] {v:Value} {l:List Sd1} (hv:Boxv h0 v l):Spec mach 13 #[v] h (fun r _=>r=.bool (okB l)) NP:=by
  obtain⟨a,c,rfl,hl,k⟩:=hv
  by_cases h6:(l.length:Int) > 6
  · have:okB l=false:=by unfold okB;rw[decide_eq_false (by omega)];rfl
    rw[this]
    refine Spec.go [] Tryz.func13 rfl rfl (by kernel_rfl) fun C _=>?_
    try simp(maxSteps:=999999) (disch:=omega) only[go_sem,ξ,ζ,h6,decide_true]
  · refine Spec.go [] Tryz.func13 rfl rfl (by kernel_rfl) fun C _=>?_
    try simp(maxSteps:=999999) (disch:=omega) only[go_sem,ξ,ζ,h6,decide_false]
    refine lp [] (fun i:Nat=>⟨[(0,.v (.slice a l.length c)),(8,.v (.slice a l.length c)),(9,.v (.int .i64 l.length)),(10,.v (.int .i64 i))],[]⟩) (fun i h'=>Le h0 h'∧i≤l.length∧∀j,j < i→okS l j=true) (fun i=>l.length - i) 0 ?_ ⟨inferInstance,qBh _,fun j hj=>absurd hj (by omega)⟩ (by kernel_rfl) ?_
    · try simp(maxSteps:=999999) (disch:=omega) only[go_sem,ξ,ζ]
      all_goals rfl
    rintro i h2 ⟨le2,hi,hj⟩
    by_cases hlt:(i:Int) < l.length
    · obtain⟨x,hx⟩:∃x,l[i]?=some x:=⟨_,List.getElem?_eq_getElem (by omega)⟩
      obtain⟨ad,b1,a1,m1,c1,a2,m2,c2,b2,a3,m3,c3,a4,m4,c4,e,u,rfl,hat,hiv⟩:=k i x hx
      try simp(maxSteps:=999999) (disch:=omega) only[go_sem,ξ,ζ,hlt,decide_true]
      refine Exists.intro [_,_,_,_,_,_,_,_,_] (And.intro rfl (And.intro (fun j v hj=>le2.sub.at (hat j v hj)) ?_))
      try simp(maxSteps:=999999) (disch:=omega) only[go_sem,ξ,ζ]
      refine caN (by exact RIsName_spec) ?_;rintro v3 h3 s3 rfl
      try simp(maxSteps:=999999) (disch:=omega) only[go_sem,ξ,ζ]
      have big:x.2.big=true→okS l i=false:=fun g=>by unfold okS;rw[hx];simp[g]
      have voi:x.2.set.void=true→okS l i=false:=fun g=>by unfold okS;rw[hx];simp[g]
      have nam:nameB x.1=false→okS l i=false:=fun g=>by unfold okS;rw[hx];simp[g]
      have hi':i < l.length:=by omega
      cases hn:nameB x.1 with
      | false=>
        rw[okB_no hi' (nam hn)]
        try simp(maxSteps:=999999) (disch:=omega) only[go_sem,ξ,ζ,hn]
      | true=>
        have kL:=fun {h} [Le h2 h]=>eZ (h:=h) (hiv.to (h':=h2))
        have nxt:(decide (i=0) || (match l[i - 1]? with |some y=>Op.bytesLess y.1.toList x.1.toList |none=>true))=true→x.2.big=false→x.2.set.void=false→okS l i=true:=fun g1 g2 g3=>by
          unfold okS;rw[hx]
          show(nameB x.1 && _ && _ && _)=true
          rw[hn,g1,g2,g3];rfl
        by_cases i0:(i:Int) > 0
        · obtain⟨y,hy⟩:∃y,l[i - 1]?=some y:=⟨_,List.getElem?_eq_getElem (by omega)⟩
          obtain⟨ad',_,_,_,_,_,_,_,_,_,_,_,_,_,_,_,_,ea,hat',_⟩:=k (i - 1) y hy
          cases ea
          have hyat:h0.at (ad.add ((i - 1)*9))=some (.string y.1):=hat' 0 _ rfl
          have ew:((i:Int) - 1).toNat=i - 1:=by omega
          try simp(maxSteps:=999999) (disch:=omega) only[go_sem,ξ,ζ,hn,i0,decide_true,ew]
          refine aE ((inferInstance:Le h0 h3).sub.at hyat) ?_
          try simp(maxSteps:=999999) (disch:=omega) only[go_sem,ξ,ζ]
          cases hB:Op.bytesLess y.1.toList x.1.toList with
          | false=>
            rw[okB_no hi' (by unfold okS;rw[hx];simp only[hy,hB];rw[decide_eq_false (by omega)];simp)]
            try simp(maxSteps:=999999) (disch:=omega) only[go_sem,ξ,ζ,hB]
          | true=>
            try simp(maxSteps:=999999) (disch:=omega) only[go_sem,ξ,ζ,hB]
            refine caN (by exact kL) ?_;rintro v4 h4 s4 rfl
            try simp(maxSteps:=999999) (disch:=omega) only[go_sem,ξ,ζ]
            cases gb:x.2.big with
            | true=>
              rw[okB_no hi' (big gb)]
              try simp(maxSteps:=999999) (disch:=omega) only[go_sem,ξ,ζ,gb]
            | false =>
              try simp(maxSteps:=999999) (disch:=omega) only[go_sem,ξ,ζ,gb]
              refine caN (by exact RefOf (hiv.to (h':=h4)) gb) ?_;rintro v5 h5 s5 q5;obtain⟨_,_,_,_,_,_,_,_,_,_,_,_,_,_,rfl,_⟩:=q5.sa
              try simp(maxSteps:=999999) (disch:=omega) only[go_sem,ξ,ζ]
              cases gv:x.2.set.void with
              | true=>
                rw[okB_no hi' (voi gv)]
                try simp(maxSteps:=999999) (disch:=omega) only[go_sem,ξ,ζ,gv]
              | false=>
                try simp(maxSteps:=999999) (disch:=omega) only[go_sem,ξ,ζ,gv]
                dsimp only[lpE];refine⟨i+1,?_,⟨inferInstance,by omega,fun j k=>?_⟩,by omega⟩
                · try simp(maxSteps:=999999) (disch:=omega) only[go_sem,ξ,ζ]
                  all_goals rfl
                · rcases qBj j i with g |g
                  · exact hj j g
                  · obtain rfl:j=i:=by omega
                    exact nxt (by rw[hy];simp[hB]) gb gv
        · try simp(maxSteps:=999999) (disch:=omega) only[go_sem,ξ,ζ,hn,i0,decide_false]
          refine caN (by exact kL) ?_;rintro v4 h4 s4 rfl
          try simp(maxSteps:=999999) (disch:=omega) only[go_sem,ξ,ζ]
          cases gb:x.2.big with
          | true=>
            rw[okB_no hi' (big gb)]
            try simp(maxSteps:=999999) (disch:=omega) only[go_sem,ξ,ζ,gb]
          | false =>
            try simp(maxSteps:=999999) (disch:=omega) only[go_sem,ξ,ζ,gb]
            refine caN (by exact RefOf (hiv.to (h':=h4)) gb) ?_;rintro v5 h5 s5 q5;obtain⟨_,_,_,_,_,_,_,_,_,_,_,_,_,_,rfl,_⟩:=q5.sa
            try simp(maxSteps:=999999) (disch:=omega) only[go_sem,ξ,ζ]
            cases gv:x.2.set.void with
            | true=>
              rw[okB_no hi' (voi gv)]
              try simp(maxSteps:=999999) (disch:=omega) only[go_sem,ξ,ζ,gv]
            | false=>
              try simp(maxSteps:=999999) (disch:=omega) only[go_sem,ξ,ζ,gv]
              dsimp only[lpE];refine⟨i+1,?_,⟨inferInstance,by omega,fun j k=>?_⟩,by omega⟩
              · try simp(maxSteps:=999999) (disch:=omega) only[go_sem,ξ,ζ]
                all_goals rfl
              · rcases qBj j i with g |g
                · exact hj j g
                · obtain rfl:j=i:=by omega
                  exact nxt (by rw[decide_eq_true (by omega)];rfl) gb gv
    · rw[okB_yes (by omega) (fun j k=>hj j (by omega))]
      try simp(maxSteps:=999999) (disch:=omega) only[go_sem,ξ,ζ,hlt,decide_false]



open Go.RowKit (Below)
section
variable {M:Mach} {C:Ctx} {n:Nat} {S:AS} {h:PH} {β:Nat→Nat} {a:Act} {w:World} {Q:Exit→AS→PH→Prop} {E:List PanicEntry→PH→Prop}
def mkN (P:Program) (T:TypeId) (sz:Nat):Bool:=match P.underlying T with
 | some (.slice e)=>match P.info? e with
  | some i=>match i.zero with
   |some v=>i.size == sz && v.cells.size == sz && decide (1≤sz) && decide (1≤i.bytes) && decide (i.bytes≤2^20)
   |none=>false
  |none=>false
 |_=>false
theorem mkN_some {P:Program} {T:TypeId} {sz:Nat} (h:mkN P T sz=true):∃e i v,P.underlying T=some (.slice e)∧P.info? e=some i∧i.zero=some v∧i.size=sz∧v.cells.size=sz∧1≤sz∧1≤i.bytes∧i.bytes≤2^20:=by
 unfold mkN at h
 split at h
 ·rename_i e he
  split at h
  ·rename_i i hi
   split at h
   ·rename_i v hv
    simp only[φ,beq_iff_eq,decide_eq_true_eq] at h
    exact⟨e,i,v,he,hi,hv,h.1.1.1.1,h.1.1.1.2,h.1.1.2,h.1.2,h.2⟩
   ·cases h
  ·cases h
 ·cases h
def appN (sz:Nat) (S:AS) (h:PH) (x y:AV) (k:AS→PH→AV→Prop):Prop:=match y with
 | .s j off m _=>off+m*sz≤(S.box j).length∧1≤m∧(((S.box j).drop off).take (m*sz)).all Value.oneCell'=true∧match x with
  |.v (.slice none 0 0)=>m≤2^26∧∀(cap:Nat) (junk:List Value),m≤cap→m*sz+junk.length=cap*sz→k (S.push (((S.box j).drop off).take (m*sz) ++junk)) h (.s S.bx.length 0 m cap)
  |.s i off' len cap=>off'=0∧len≤cap∧1≤cap∧cap*sz=(S.box i).length∧len+m≤2^26∧∀(cap':Nat) (junk:List Value),len+m≤cap'→(len+m)*sz+junk.length=cap'*sz→
    k ((S.setBox i []).push ((S.box i).take (len*sz) ++((S.box j).drop off).take (m*sz) ++junk)) h (.s S.bx.length 0 (len+m) cap')
  |_=>False
 |_=>False
theorem im_appN (g:G M C n S h β a w) {o:Oper} (hd:∀d,o.dst=some d→d < n) {x y:Operand} {T U:TypeId} {sz:Nat} (ho:o.op=.call {callee:=.builtin .append,args:=#[x,y],argTypes:=#[T,U]})
  (hU:uk M.P U=.slice) (hz:mkN M.P T sz=true) {k:AS→PH→AV→Prop} (hk:appN sz S h (S.ev x) (S.ev y) k):ImOk M C n a w o E k:=by
 obtain⟨e,i,z,hE,hi,hzero,hs,hzc,h1,hb1,hb2⟩:=mkN_some hz
 obtain⟨e',hE'⟩:=oA hU
 unfold appN at hk
 split at hk
 case h_2=>exact hk.elim
 rename_i j off m mc hy
 obtain⟨hoff,hm1,hall,hk⟩:=hk
 have hj:j < S.bx.length:=g.wf_ev (by rw[hy];rfl)
 have hyv:=g.ev_s hy
 generalize hN:((S.box j).drop off).take (m*sz)=news at hall hk
 have hl:news.length=m*sz:=by subst hN;simp;omega
 have hsrc:∀w',G M C n S h β a w'→(Builtin.firstCells sz m (.slice (some ⟨β j,off,none⟩) m mc)).run M.P w'=.ok news.toArray w':=fun w' g'=>by
  simp only[Builtin.firstCells]
  have:=run_loadCells_list (P:=M.P) (w:=w') ⟨β j,off,none⟩ news (fun q v hq=>by
   rw[gF]
   refine g'.box_get hj ?_
   rw[←hN,List.getElem?_take] at hq
   split at hq
   ·rw[List.getElem?_drop] at hq;exact hq
   ·cases hq)
  rw[hl] at this
  exact this
 have hexec:∀v,a.eval x=v→execOp a.eval o=(do pure (.value (←Builtin.append_ #[T,U] o.type #[v,.slice (some ⟨β j,off,none⟩) m mc])):Sem Next):=by
  intro v hv
  subst hv
  simp[execOp,ho,resolve,invoke,builtin,hyv]
 have hgrown:∀(base:Option Addr) (len cap:Nat) (old:List Value) (S':AS),a.eval x=.slice base len cap→cap < len+m→len+m≤2^26→old.length=len*sz→
   (∀w',G M C n S h β a w'→(Builtin.firstCells sz len (.slice base len cap)).run M.P w'=.ok old.toArray w')→G M C n S' h β a w.drew→S'.bx.length=S.bx.length→
   (∀(cap':Nat) (junk:List Value),len+m≤cap'→(len+m)*sz+junk.length=cap'*sz→k (S'.push (old ++news ++junk)) h (.s S.bx.length 0 (len+m) cap'))→ImOk M C n a w o E k:=by
  intro base len cap old S' hx hlt hroom hol hold g1 hlen hk
  have gd:=g.below (gt w)
  have c1:¬(len+m≤cap):=by omega
  have c2:¬(((len+m:Nat):Int) > IntKind.i64.max∧(i.bytes=0)):=by omega
  have c3:¬(Builtin.nextslicecap (len+m) cap*i.bytes > 2^48):=by
   have:=qAk (next_le hlt) hb2
   omega
  have⟨q,hq⟩:∃q:Nat,(Builtin.append_ #[T,U] T #[.slice base len cap,.slice (some ⟨β j,off,none⟩) m mc]).run M.P w=.ok (.slice (some ⟨w.heap.size,0,none⟩) (len+m) (len+m+q)) (w.drew.alloc (.cells (old.toArray ++news.toArray ++Builtin.zeroCells z.cells q) e)):=by
   refine⟨w.tape w.drawn (.appendCap (len+m) cap e) % (2^63 - (len+m)),?_⟩
   simp only[Builtin.append_,Sem.run_bind,run_underlying hE,run_underlying hE',Result.andThen_ok,Sem.run_pure,sizeOf,typeInfo,run_program,hi,hs,Builtin.lenOf,
    List.getElem?_toArray,List.getElem?_cons_zero,List.getElem?_cons_succ,qAw,if_false,Bool.not_false,if_true,c1,false_or,c2,c3,run_choose,Question.forced,Question.cut,World.drew_eq,run_askRoom,hold _ gd,hsrc _ gd,
    zeroValue,hzero,Nat.add_sub_cancel_left,newRow,run_newObj,World.alloc_eq,World.size_drew]
  have hjl:(Builtin.zeroCells z.cells q).toList.length=q*sz:=by simp[Builtin.zeroCells,hzc]
  obtain⟨β',b1,b2,g'⟩:=g1.push (old ++news ++(Builtin.zeroCells z.cells q).toList) e
  refine .mk hd (v:=.slice (some ⟨w.heap.size,0,none⟩) (len+m) (len+m+q)) (x:=.s S.bx.length 0 (len+m) (len+m+q)) ?_ (.inr ((gt w).alloc (by rw[World.size_drew];exact η _) _)) (β':=β') (S':=S'.push (old ++news ++(Builtin.zeroCells z.cells q).toList)) (w':=w.drew.alloc (.cells (old ++news ++(Builtin.zeroCells z.cells q).toList).toArray e)) g' (.inr ?_) ?_ (hk _ _ (by omega) (by rw[hjl,←Nat.add_mul]))
  ·have hc:old.toArray ++news.toArray ++Builtin.zeroCells z.cells q=(old ++news ++(Builtin.zeroCells z.cells q).toList).toArray:=by simp
   rw[hc] at hq
   rw[hexec _ hx]
   have hty:∀(t:TypeId) (vs:Array Value),Builtin.append_ #[T,U] t vs=Builtin.append_ #[T,U] T vs:=fun _ _=>rfl
   simp only[Sem.run_bind,hty,hq,Result.andThen_ok,Sem.run_pure]
  ·simp only[cv,←hlen,b2,World.size_drew]
  ·intro i hi;cases hi;simp[AS.push,hlen]
 split at hk
 ·rename_i hx
  obtain⟨hroom,hk⟩:=hk
  refine hgrown none 0 0 [] S (g.ev_v hx) (by omega) (by omega) (by simp) (fun w' _=>by simp[Builtin.firstCells]) (g.below (gt w)) rfl (fun cap' junk c1 c2=>?_)
  rw[Nat.zero_add] at c1 c2 ⊢
  exact hk cap' junk c1 c2
 ·rename_i i' off' len cap hx
  obtain⟨rfl,hlc,hc1,hcap,hroom,hk⟩:=hk
  have hcls:cls o.op=2:=by
   rw[ho]
   cases x with
   |const c=>cases hx
   |_=>rfl
  have hi':i' < S.bx.length:=g.wf_ev (by rw[hx];rfl)
  have hget:S.bx[i']?=some (S.box i'):=by simp[AS.box,hi']
  have hlm:len*sz≤cap*sz:=ψ _ hlc
  by_cases hle:len+m≤cap
  ·have hne:S.box i'≠[]:=fun e0=>by
    rw[e0] at hcap
    have:=ψ sz hc1
    simp at hcap;omega
   have hlm2:=ψ sz hle
   rw[Nat.add_mul] at hlm2
   obtain⟨T',hw⟩:=(g.boxes i' _ hget hne).row
   obtain⟨w',h1',h2,h3⟩:=jd (P:=M.P) news (S.box i') (len*sz) 0 w hw (by omega) hall
   have hspl:(S.box i').take (len*sz) ++news ++(S.box i').drop (len*sz+m*sz)=spl (S.box i') (len*sz) news:=by
    rw[spl_eq _ _ _ (by omega),hl]
   have hkj:=hk cap ((S.box i').drop (len*sz+m*sz)) hle (by simp[Nat.add_mul];omega)
   rw[hspl] at hkj
   have g1:=g.setBox hget hne (cs':=spl (S.box i') (len*sz) news) (by rw[sm]) (by simpa using h2) h3
   obtain⟨β',b1,g'⟩:=g1.move (i:=i') (cs:=spl (S.box i') (len*sz) news) (by simp[AS.setBox,hi'])
   have hset:(S.setBox i' (spl (S.box i') (len*sz) news)).setBox i' []=S.setBox i' []:=by simp[AS.setBox]
   have hlen:(S.setBox i' (spl (S.box i') (len*sz) news)).bx.length=S.bx.length:=by simp[AS.setBox]
   rw[hset] at g'
   rw[hlen] at b1
   refine .mk hd (v:=.slice (some ⟨β i',0,none⟩) (len+m) cap) (x:=.s S.bx.length 0 (len+m) cap) (w':=w') ?_ (.inl hcls) g' (.inr (by simp[cv,b1])) (fun q hq=>by cases hq;simp[AS.push,AS.setBox]) hkj
   rw[hexec _ (g.ev_s hx)]
   have hst:(storeCells ((⟨β i',0,none⟩:Addr).add (len*sz)) news).run M.P w=.ok () w':=by simpa[gF] using h1'
   simp only[Builtin.append_,Sem.run_bind,run_underlying hE,run_underlying hE',Result.andThen_ok,Sem.run_pure,sizeOf,typeInfo,run_program,hi,hs,Builtin.lenOf,
    List.getElem?_toArray,List.getElem?_cons_zero,List.getElem?_cons_succ,qAw,if_false,Bool.not_false,if_true,hle,hsrc _ g,hst]
  ·refine hgrown (some ⟨β i',0,none⟩) len cap ((S.box i').take (len*sz)) (S.setBox i' []) (g.ev_s hx) (by omega) hroom (by simp;omega) (fun w' g'=>?_) ((g.below (gt w)).kill i') (by simp[AS.setBox]) hk
   simp only[Builtin.firstCells]
   have hl2:((S.box i').take (len*sz)).length=len*sz:=by simp;omega
   have:=run_loadCells_list (P:=M.P) (w:=w') ⟨β i',0,none⟩ ((S.box i').take (len*sz)) (fun j v hj=>by
    rw[gF]
    refine g'.box_get hi' ?_
    rw[List.getElem?_take] at hj
    split at hj
    ·simpa using hj
    ·cases hj)
   rw[hl2] at this
   exact this
 ·exact hk.elim
theorem RWc_tail {ops:Array Oper} {Q Q':Exit→Act→World→Prop} {r:List Nat} (hp:∀e a w,e≠.normal→Q' e a w→Q e a w) (hl:LetsOut Q'→LetsOut Q) (hn:∀a w,Q' .normal a w→RWc M.P ops Q r a w):∀(l:List Nat) (a:Act) (w:World),RWc M.P ops Q' l a w→RWc M.P ops Q (l ++r) a w:=by
 intro l
 induction l with
 |nil=>intro a w hq;exact hn a w hq
 | cons i l ih=>
  intro a w hq
  show RWc M.P ops Q (i :: (l ++r)) a w
  simp only[RWc] at hq ⊢
  split at hq
  ·exact hq
  ·rename_i o ho
   by_cases hw:Region.wanted o (yielded ops a.tmps)=true
   ·rw[if_pos hw] at hq ⊢
    by_cases hc:cls o.op=0
    ·rw[if_pos hc] at hq ⊢
     obtain⟨v,h1,h2⟩:=hq
     exact⟨v,h1,ih _ _ h2⟩
    ·rw[if_neg hc] at hq ⊢
     have hq:=nf (K':=fun a' w'=>(cls o.op=2∨Below w.heap.size w w')∧RWc M.P ops Q (l ++r) a' w') (fun a' w' h=>⟨h.1,ih _ _ h.2⟩) hq
     unfold Oper.wp at hq ⊢
     generalize(execOp a.eval o).run M.P w=r at hq
     cases r with
     | ok n w'=>
      cases n<;>simp only[Oper.upon] at hq ⊢<;>first
       |exact hq
       |exact Calls.mono hq (fun e w'' he=>by cases e<;>first |exact he |exact hp _ _ _ (by simp) he |exact hl he)
     |halt x w'=>cases x<;>simp only[Oper.upon] at hq ⊢<;>first |exact hq |exact hp _ _ _ (by simp) hq
   ·rw[if_neg hw] at hq ⊢
    exact ih _ _ hq
theorem RWc_app {ops:Array Oper} {l1 l2:List GX} {d:Nat} {x y:Operand} {T U V:TypeId} {ps:String} {ar:Array Edge} {sz:Nat} (pl1:List PL) (i:Nat) (pl2:List PL) (hi:nth ops.toList i=some ⟨some d,.call {callee:=.builtin .append,args:=#[x,y],argTypes:=#[T,U]},V,ps,ar,none⟩)
  (hU:uk M.P U=.slice) (hz:mkN M.P T sz=true) (hd:d < n) (h1:prep n ops pl1=some l1) (h2:prep n ops pl2=some l2)
  (hw:walk M E l1 (fun S h=>appN sz S h (S.ev x) (S.ev y) fun S h v=>walk M E l2 (fun S h=>Q .normal S h) (S.put (some d) v) h) S h) (g:G M C n S h β a w):RWc M.P ops (LQ M n C Q E) (order pl1 ++i :: order pl2) a w:=by
 refine RWc_tail (Q':=LQ M n C (qs (fun S h=>appN sz S h (S.ev x) (S.ev y) fun S h v=>walk M E l2 (fun S h=>Q .normal S h) (S.put (some d) v) h) Q) E) (fun e a w he hq=>?_) ?_ (fun a w hq=>?_) _ _ _ (fx pl1 l1 S h β a w h1 hw g)
 ·cases e with
  |normal=>exact(he rfl).elim
  |panic ch=>exact hq
  |outgrown=>exact hq
  |_=>exact hq
 ·unfold LetsOut
  exact fun h=>h
 ·obtain⟨S1,h1',β1,g1,hk⟩:=hq
  rw[Bp] at hi
  dsimp only[qs] at hk
  rw[jP hi (by simp only[cls];cases nilB _<;>decide),if_pos (nI rfl _)]
  have:=im_appN (E:=E) g1 (o:=⟨some d,.call {callee:=.builtin .append,args:=#[x,y],argTypes:=#[T,U]},V,ps,ar,none⟩) (fun k hk=>by cases hk;exact hd) rfl hU hz hk (LQ M n C Q E) (fun ch h' w' hf he=>⟨g1.defers,h',hf,he⟩)
  exact nf (fun a' w' ⟨h1,S',h',x,β',g',hk⟩=>⟨h1,fx pl2 l2 _ h' β' a' w' h2 hk g'⟩) this
theorem AWP_app {id:Nat} {ops:Array Oper} {l1 l2:List GX} {d:Nat} {x y:Operand} {T U V:TypeId} {ps:String} {ar:Array Edge} {sz:Nat} (pl1:List PL) (i:Nat) (pl2:List PL) (hi:nth ops.toList i=some ⟨some d,.call {callee:=.builtin .append,args:=#[x,y],argTypes:=#[T,U]},V,ps,ar,none⟩)
  (hU:uk M.P U=.slice) (hz:mkN M.P T sz=true) (hord:order pl1 ++i :: order pl2=List.range ops.size) (hd:d < n) (h1:prep n ops pl1=some l1) (h2:prep n ops pl2=some l2)
  (hw:walk M E l1 (fun S h=>appN sz S h (S.ev x) (S.ev y) fun S h v=>walk M E l2 (fun S h=>Q .normal S h) (S.put (some d) v) h) S h):AWP M n C (.region id ops false) Q E S h:=
 fun β a w g=>eK (by rw[←hord];exact RWc_app pl1 i pl2 hi hU hz hd h1 h2 hw g)
theorem AWP_apD {id:Nat} {ops:Array Oper} {l1 l2:List GX} {d:Nat} {x y:Operand} {T U V:TypeId} {ps:String} {ar:Array Edge} {sz:Nat} (pl1:List PL) (i:Nat) (pl2:List PL) (hi:nth ops.toList i=some ⟨some d,.call {callee:=.builtin .append,args:=#[x,y],argTypes:=#[T,U]},V,ps,ar,none⟩)
  (hU:uk M.P U=.slice) (hz:mkN M.P T sz=true) (hc:fi ops (order pl1 ++i :: order pl2)=true) (hd:d < n) (h1:prep n ops pl1=some l1) (h2:prep n ops pl2=some l2)
  (hw:walk M E l1 (fun S h=>appN sz S h (S.ev x) (S.ev y) fun S h v=>walk M E l2 (fun S h=>Q .normal S h) (S.put (some d) v) h) S h):AWP M n C (.region id ops true) Q E S h:=
 fun β a w g=>Eh M.mixed _ hc (fun c a d v w=>sJ c a d v w) (RWc_app pl1 i pl2 hi hU hz hd h1 h2 hw (g.below (gt w)))
end
def RowOf {α:Type} (sz:Nat) (Q:List Value→α→Prop) (row:List Value) (l:List α):Prop:=l.length*sz≤row.length∧∀(i:Nat) (s:α),l[i]?=some s→Q ((row.drop (i*sz)).take sz) s
theorem RowOf.nil {α:Type} {sz:Nat} {Q:List Value→α→Prop} {row:List Value}:RowOf sz Q row []:=⟨by simp,fun i s h=>by simp at h⟩
theorem RowOf.mono {α:Type} {sz:Nat} {Q Q':List Value→α→Prop} {row:List Value} {l:List α} (h:RowOf sz Q row l) (k:∀cs s,Q cs s→Q' cs s):RowOf sz Q' row l:=⟨h.1,fun i s e=>k _ _ (h.2 i s e)⟩
theorem RowOf.app {α:Type} {sz:Nat} {Q:List Value→α→Prop} {row:List Value} {l:List α} (h:RowOf sz Q row l) {cs:List Value} {s:α} (hl:cs.length=sz) (q:Q cs s) (junk:List Value):RowOf sz Q (row.take (l.length*sz) ++cs ++junk) (l ++[s]):=by
 have h1:=h.1
 have e1:(row.take (l.length*sz)).length=l.length*sz:=by simp;omega
 refine⟨by simp[Nat.add_mul];omega,fun i t hi=>?_⟩
 rcases qBj i l.length with g |g
 ·rw[List.getElem?_append_left g] at hi
  have hm:(i+1)*sz≤l.length*sz:=ψ _ g
  rw[Nat.add_mul,qBm] at hm
  have:=h.2 i t hi
  rw[List.append_assoc,List.drop_append_of_le_length (by omega),List.take_append_of_le_length (by simp;omega),List.drop_take,List.take_take,Nat.min_eq_left (by omega)]
  exact this
 ·have:i < (l ++[s]).length:=(List.getElem?_eq_some_iff.1 hi).1
  simp only[qAp,List.length_singleton] at this
  obtain rfl:i=l.length:=by omega
  rw[List.getElem?_append_right (η _),Nat.sub_self] at hi
  cases hi
  rw[List.append_assoc,List.drop_append_of_le_length (by omega),List.drop_take,Nat.sub_self,List.take_zero,List.nil_append,←hl,List.take_append_of_le_length (η _),List.take_length]
  exact q
theorem RowOf.ld {α:Type} {sz:Nat} {Q:List Value→α→Prop} {row:List Value} {l:List α} (h:RowOf sz Q row l) {i:Nat} {s:α} (hi:l[i]?=some s):ldb (some sz) row (i*sz)=some (.agg ((row.drop (i*sz)).take sz).toArray):=by
 have h1:=h.1
 have g:i < l.length:=(List.getElem?_eq_some_iff.1 hi).1
 have hm:(i+1)*sz≤l.length*sz:=ψ _ g
 rw[Nat.add_mul,qBm] at hm
 show(bif Nat.ble (i*sz+sz) row.length then _ else _)=_
 rw[Nat.ble_eq_true_of_le (by omega)]
 rfl
theorem at_off {h:PH} {b:Nat} {cs:Array Value} (hb:h b=some cs) (n j:Nat):h.at (((⟨b,0,none⟩:Addr).add n).add j)=cs[n+j]?:=by
 have e:((⟨b,0,none⟩:Addr).add n).add j=⟨b,n+j,none⟩:=by
  unfold Addr.add
  split<;>split<;>simp_all
 rw[e]
 simp[PH.at,hb]

theorem okB_big {l:List Sd1} (h:okB l=true) {i:Nat} {x:Sd1} (hx:l[i]?=some x):x.2.big=false:=by
 unfold okB at h
 rw[φ] at h
 have:=qBd.1 h.2 i (List.mem_range.2 (List.getElem?_eq_some_iff.1 hx).1)
 unfold okS at this
 rw[hx] at this
 simp only[φ,Bool.not_eq_true'] at this
 exact this.1.2
theorem Boxv.side {h:PH} {v:Value} {l:List Sd1} (r:Boxv h v l):∃a c,v=.slice a l.length c∧l.length≤2^30∧∀i x,l[i]?=some x→∃ad a1 m1 c1 a2 m2 c2 a3 m3 c3 a4 m4 c4,a=some ad∧
  (∀j v,([.string x.1,.bool x.2.n1,.slice a1 m1 c1,.slice a2 m2 c2,.bool x.2.n2,.slice a3 m3 c3,.slice a4 m4 c4,.bool x.2.l,.bool x.2.u]:List Value)[j]?=some v→h.at ((ad.add (i*9)).add j)=some v)∧
  Rw h (.agg #[.bool x.2.n1,.slice a1 m1 c1,.slice a2 m2 c2]) x.2.n1 x.2.a1 x.2.d1∧Rw h (.agg #[.bool x.2.n2,.slice a3 m3 c3,.slice a4 m4 c4]) x.2.n2 x.2.a2 x.2.d2∧Iv h (.agg #[.bool x.2.n1,.slice a1 m1 c1,.slice a2 m2 c2,.bool x.2.n2,.slice a3 m3 c3,.slice a4 m4 c4,.bool x.2.l,.bool x.2.u]) x.2:=by
 obtain⟨a,c,rfl,hl,k⟩:=r
 refine⟨a,c,rfl,hl,fun i x hx=>?_⟩
 obtain⟨ad,b1,a1,m1,c1,a2,m2,c2,b2,a3,m3,c3,a4,m4,c4,e,u,rfl,hat,hiv⟩:=k i x hx
 obtain⟨_,_,_,_,_,_,_,_,_,_,_,_,e0,r1,r2⟩:=hiv.sa
 have e1:=e0
 simp only[Value.agg.injEq,Array.mk.injEq,List.cons.injEq,and_true,Value.bool.injEq] at e1
 obtain⟨rfl,g1,g2,rfl,g3,g4,rfl,rfl⟩:=e1
 rw[←g1,←g2] at r1
 rw[←g3,←g4] at r2
 exact⟨ad,a1,m1,c1,a2,m2,c2,a3,m3,c3,a4,m4,c4,rfl,hat,r1,r2,hiv⟩
abbrev Pv1:=ByteArray×Bool×Nat×Nat
def Ptv (h:PH) (v:Value) (l:List Pv1):Prop:=∃a c,v=.slice a l.length c∧l.length≤2^30∧∀i s,l[i]?=some s→∃ad a1 m1 c1 a2 m2 c2,a=some ad∧
 (∀j v,([.string s.1,.bool s.2.1,.slice a1 m1 c1,.slice a2 m2 c2]:List Value)[j]?=some v→h.at ((ad.add (i*4)).add j)=some v)∧Rw h (.agg #[.bool s.2.1,.slice a1 m1 c1,.slice a2 m2 c2]) s.2.1 s.2.2.1 s.2.2.2
theorem Ptv.to {h h':PH} {v:Value} {l:List Pv1} (r:Ptv h v l) [t:Le h h']:Ptv h' v l:=by
 obtain⟨a,c,rfl,hl,k⟩:=r
 refine⟨a,c,rfl,hl,fun i s hi=>?_⟩
 obtain⟨ad,a1,m1,c1,a2,m2,c2,h1,h2,h3⟩:=k i s hi
 exact⟨ad,a1,m1,c1,a2,m2,c2,h1,fun j v hj=>t.sub.at (h2 j v hj),h3.to⟩
theorem Ptv.sa {h:PH} {v:Value} {l:List Pv1} (r:Ptv h v l):∃a m c,v=.slice a m c:=let ⟨a,c,h1,_⟩:=r;⟨a,_,c,h1⟩
def okP1 (l:List Pv1) (i:Nat):Bool:=match l[i]? with
 | some x=>nameB x.1 && (decide (i=0) || (match l[i - 1]? with
  |some y=>Op.bytesLess y.1.toList x.1.toList
  |none=>true)) && !decide (lg x.2.1 x.2.2.1 x.2.2.2)
 |none=>true
def okP (l:List Pv1):Bool:=(List.range l.length).all (okP1 l)
theorem okP_no {l:List Pv1} {i:Nat} (hi:i < l.length) (h:okP1 l i=false):okP l=false:=List.all_eq_false.2 ⟨i,List.mem_range.2 hi,by rw[h];decide⟩
theorem okP_yes {l:List Pv1} (h:∀j,j < l.length→okP1 l j=true):okP l=true:=qBd.2 fun j hj=>h j (List.mem_range.1 hj)
theorem NumSign_no {h0 h:PH} [Le h0 h] {v:Value} {neg:Bool} {n d:Nat} (hv:Rw h0 v neg n d) (hl:lg neg n d):Spec mach 115 #[v] h (fun r _=>r=.tuple #[.int .i64 0,.int .i64 1]) NP:=by
 have kX:=fun {h} [Le h0 h]=>Gm (h:=h) hv hl
 obtain⟨_,_,_,_,_,_,_,rfl,_⟩:=hv.sa
 refine Spec.go [] Tryz.func115 rfl rfl (by kernel_rfl) fun C _=>?_
 try simp(maxSteps:=999999) (disch:=omega) only[go_sem,ξ,ζ]
 refine caN (by exact kX) ?_;rintro v1 h1 s1 ⟨_,_,_,_,_,_,_,rfl⟩
 try simp(maxSteps:=999999) (disch:=omega) only[go_sem,ξ,ζ]
 all_goals rfl
theorem IsPoint_spec {h0 h:PH} [Le h0 h] {v:Value} {l:List Pv1} (hv:Ptv h0 v l):Spec mach 62 #[v] h (fun r _=>r=.bool (okP l)) NP:=by
  obtain⟨a,c,rfl,hl,k⟩:=hv
  refine Spec.go [] Tryz.func62 rfl rfl (by kernel_rfl) fun C _=>?_
  try simp(maxSteps:=999999) (disch:=omega) only[go_sem,ξ,ζ]
  refine lp [] (fun i:Nat=>⟨[(0,.v (.slice a l.length c)),(7,.v (.slice a l.length c)),(8,.v (.int .i64 l.length)),(9,.v (.int .i64 i))],[]⟩) (fun i h'=>Le h0 h'∧i≤l.length∧∀j,j < i→okP1 l j=true) (fun i=>l.length - i) 0 ?_ ⟨inferInstance,qBh _,fun j hj=>absurd hj (by omega)⟩ (by kernel_rfl) ?_
  · try simp(maxSteps:=999999) (disch:=omega) only[go_sem,ξ,ζ]
    all_goals rfl
  rintro i h2 ⟨le2,hi,hj⟩
  by_cases hlt:(i:Int) < l.length
  · obtain⟨x,hx⟩:∃x,l[i]?=some x:=⟨_,List.getElem?_eq_getElem (by omega)⟩
    obtain⟨ad,a1,m1,c1,a2,m2,c2,rfl,hat,hr⟩:=k i x hx
    try simp(maxSteps:=999999) (disch:=omega) only[go_sem,ξ,ζ,hlt,decide_true]
    refine Exists.intro [_,_,_,_] (And.intro rfl (And.intro (fun j v hj=>le2.sub.at (hat j v hj)) ?_))
    try simp(maxSteps:=999999) (disch:=omega) only[go_sem,ξ,ζ]
    refine caN (by exact IsName_spec) ?_;rintro v3 h3 s3 rfl
    try simp(maxSteps:=999999) (disch:=omega) only[go_sem,ξ,ζ]
    have big:decide (lg x.2.1 x.2.2.1 x.2.2.2)=true→okP1 l i=false:=fun g=>by unfold okP1;rw[hx];simp only[g];simp
    have nam:nameB x.1=false→okP1 l i=false:=fun g=>by unfold okP1;rw[hx];simp[g]
    have hi':i < l.length:=by omega
    cases hn:nameB x.1 with
    | false=>
      rw[okP_no hi' (nam hn)]
      try simp(maxSteps:=999999) (disch:=omega) only[go_sem,ξ,ζ,hn]
    | true=>
      have nxt:(decide (i=0) || (match l[i - 1]? with |some y=>Op.bytesLess y.1.toList x.1.toList |none=>true))=true→decide (lg x.2.1 x.2.2.1 x.2.2.2)=false→okP1 l i=true:=fun g1 g2=>by
        unfold okP1;rw[hx]
        show(nameB x.1 && _ && !_)=true
        rw[hn,g1,g2];rfl
      by_cases i0:(i:Int) > 0
      · obtain⟨y,hy⟩:∃y,l[i - 1]?=some y:=⟨_,List.getElem?_eq_getElem (by omega)⟩
        obtain⟨ad',_,_,_,_,_,_,ea,hat',_⟩:=k (i - 1) y hy
        cases ea
        have hyat:h0.at (ad.add ((i - 1)*4))=some (.string y.1):=hat' 0 _ rfl
        have ew:((i:Int) - 1).toNat=i - 1:=by omega
        try simp(maxSteps:=999999) (disch:=omega) only[go_sem,ξ,ζ,hn,i0,decide_true,ew]
        refine aE ((inferInstance:Le h0 h3).sub.at hyat) ?_
        try simp(maxSteps:=999999) (disch:=omega) only[go_sem,ξ,ζ]
        cases hB:Op.bytesLess y.1.toList x.1.toList with
        | false=>
          rw[okP_no hi' (by unfold okP1;rw[hx];simp only[hy,hB];rw[decide_eq_false (by omega)];simp)]
          try simp(maxSteps:=999999) (disch:=omega) only[go_sem,ξ,ζ,hB]
        | true=>
          try simp(maxSteps:=999999) (disch:=omega) only[go_sem,ξ,ζ,hB]
          cases gb:decide (lg x.2.1 x.2.2.1 x.2.2.2) with
          | true=>
            rw[okP_no hi' (big gb)]
            refine caN (by exact NumSign_no (hr.to (h':=h3)) (of_decide_eq_true gb)) ?_;rintro v4 h4 s4 rfl
            try simp(maxSteps:=999999) (disch:=omega) only[go_sem,ξ,ζ]
          | false=>
            refine caN (by exact NumSign (hr.to (h':=h3)) (of_decide_eq_false gb)) ?_;rintro v4 h4 s4 rfl
            try simp(maxSteps:=999999) (disch:=omega) only[go_sem,ξ,ζ]
            dsimp only[lpE];refine⟨i+1,?_,⟨inferInstance,by omega,fun j k=>?_⟩,by omega⟩
            · try simp(maxSteps:=999999) (disch:=omega) only[go_sem,ξ,ζ]
              all_goals rfl
            · rcases qBj j i with g |g
              · exact hj j g
              · obtain rfl:j=i:=by omega
                exact nxt (by rw[hy];simp[hB]) gb
      · try simp(maxSteps:=999999) (disch:=omega) only[go_sem,ξ,ζ,hn,i0,decide_false]
        cases gb:decide (lg x.2.1 x.2.2.1 x.2.2.2) with
        | true=>
          rw[okP_no hi' (big gb)]
          refine caN (by exact NumSign_no (hr.to (h':=h3)) (of_decide_eq_true gb)) ?_;rintro v4 h4 s4 rfl
          try simp(maxSteps:=999999) (disch:=omega) only[go_sem,ξ,ζ]
        | false=>
          refine caN (by exact NumSign (hr.to (h':=h3)) (of_decide_eq_false gb)) ?_;rintro v4 h4 s4 rfl
          try simp(maxSteps:=999999) (disch:=omega) only[go_sem,ξ,ζ]
          dsimp only[lpE];refine⟨i+1,?_,⟨inferInstance,by omega,fun j k=>?_⟩,by omega⟩
          · try simp(maxSteps:=999999) (disch:=omega) only[go_sem,ξ,ζ]
            all_goals rfl
          · rcases qBj j i with g |g
            · exact hj j g
            · obtain rfl:j=i:=by omega
              exact nxt (by rw[decide_eq_true (by omega)];rfl) gb
  · rw[okP_yes (fun j k=>hj j (by omega))]
    try simp(maxSteps:=999999) (disch:=omega) only[go_sem,ξ,ζ,hlt,decide_false]
theorem GoodPoint_spec {h0 h:PH} [Le h0 h] {v:Value} {l:List Pv1} (hv:Ptv h0 v l):Spec mach 64 #[v] h (fun r _=>r=.bool (okP l)) NP:=by
  obtain⟨a,c,rfl,hl,k⟩:=hv
  refine Spec.go [] Tryz.func64 rfl rfl (by kernel_rfl) fun C _=>?_
  try simp(maxSteps:=999999) (disch:=omega) only[go_sem,ξ,ζ]
  refine lp [] (fun i:Nat=>⟨[(0,.v (.slice a l.length c)),(5,.v (.slice a l.length c)),(6,.v (.int .i64 l.length)),(7,.v (.int .i64 i))],[]⟩) (fun i h'=>Le h0 h'∧i≤l.length∧∀j,j < i→okP1 l j=true) (fun i=>l.length - i) 0 ?_ ⟨inferInstance,qBh _,fun j hj=>absurd hj (by omega)⟩ (by kernel_rfl) ?_
  · try simp(maxSteps:=999999) (disch:=omega) only[go_sem,ξ,ζ]
    all_goals rfl
  rintro i h2 ⟨le2,hi,hj⟩
  by_cases hlt:(i:Int) < l.length
  · obtain⟨x,hx⟩:∃x,l[i]?=some x:=⟨_,List.getElem?_eq_getElem (by omega)⟩
    obtain⟨ad,a1,m1,c1,a2,m2,c2,rfl,hat,hr⟩:=k i x hx
    try simp(maxSteps:=999999) (disch:=omega) only[go_sem,ξ,ζ,hlt,decide_true]
    refine Exists.intro [_,_,_,_] (And.intro rfl (And.intro (fun j v hj=>le2.sub.at (hat j v hj)) ?_))
    try simp(maxSteps:=999999) (disch:=omega) only[go_sem,ξ,ζ]
    refine caN (by exact RIsName_spec) ?_;rintro v3 h3 s3 rfl
    try simp(maxSteps:=999999) (disch:=omega) only[go_sem,ξ,ζ]
    have big:decide (lg x.2.1 x.2.2.1 x.2.2.2)=true→okP1 l i=false:=fun g=>by unfold okP1;rw[hx];simp only[g];simp
    have nam:nameB x.1=false→okP1 l i=false:=fun g=>by unfold okP1;rw[hx];simp[g]
    have hi':i < l.length:=by omega
    cases hn:nameB x.1 with
    | false=>
      rw[okP_no hi' (nam hn)]
      try simp(maxSteps:=999999) (disch:=omega) only[go_sem,ξ,ζ,hn]
    | true=>
      have nxt:(decide (i=0) || (match l[i - 1]? with |some y=>Op.bytesLess y.1.toList x.1.toList |none=>true))=true→decide (lg x.2.1 x.2.2.1 x.2.2.2)=false→okP1 l i=true:=fun g1 g2=>by
        unfold okP1;rw[hx]
        show(nameB x.1 && _ && !_)=true
        rw[hn,g1,g2];rfl
      by_cases i0:(i:Int) > 0
      · obtain⟨y,hy⟩:∃y,l[i - 1]?=some y:=⟨_,List.getElem?_eq_getElem (by omega)⟩
        obtain⟨ad',_,_,_,_,_,_,ea,hat',_⟩:=k (i - 1) y hy
        cases ea
        have hyat:h0.at (ad.add ((i - 1)*4))=some (.string y.1):=hat' 0 _ rfl
        have ew:((i:Int) - 1).toNat=i - 1:=by omega
        try simp(maxSteps:=999999) (disch:=omega) only[go_sem,ξ,ζ,hn,i0,decide_true,ew]
        refine aE ((inferInstance:Le h0 h3).sub.at hyat) ?_
        try simp(maxSteps:=999999) (disch:=omega) only[go_sem,ξ,ζ]
        cases hB:Op.bytesLess y.1.toList x.1.toList with
        | false=>
          rw[okP_no hi' (by unfold okP1;rw[hx];simp only[hy,hB];rw[decide_eq_false (by omega)];simp)]
          try simp(maxSteps:=999999) (disch:=omega) only[go_sem,ξ,ζ,hB]
        | true=>
          try simp(maxSteps:=999999) (disch:=omega) only[go_sem,ξ,ζ,hB]
          refine caN (by exact jJ (hr.to (h':=h3))) ?_;rintro v4 h4 s4 q4;obtain rfl:v4=_:=q4
          try simp(maxSteps:=999999) (disch:=omega) only[go_sem,ξ,ζ]
          cases gb:decide (lg x.2.1 x.2.2.1 x.2.2.2) with
          | true=>
            rw[okP_no hi' (big gb)]
            try simp(maxSteps:=999999) (disch:=omega) only[go_sem,ξ,ζ,gb]
          | false=>
            try simp(maxSteps:=999999) (disch:=omega) only[go_sem,ξ,ζ,gb]
            dsimp only[lpE];refine⟨i+1,?_,⟨inferInstance,by omega,fun j k=>?_⟩,by omega⟩
            · try simp(maxSteps:=999999) (disch:=omega) only[go_sem,ξ,ζ]
              all_goals rfl
            · rcases qBj j i with g |g
              · exact hj j g
              · obtain rfl:j=i:=by omega
                exact nxt (by rw[hy];simp[hB]) gb
      · try simp(maxSteps:=999999) (disch:=omega) only[go_sem,ξ,ζ,hn,i0,decide_false]
        refine caN (by exact jJ (hr.to (h':=h3))) ?_;rintro v4 h4 s4 q4;obtain rfl:v4=_:=q4
        try simp(maxSteps:=999999) (disch:=omega) only[go_sem,ξ,ζ]
        cases gb:decide (lg x.2.1 x.2.2.1 x.2.2.2) with
        | true=>
          rw[okP_no hi' (big gb)]
          try simp(maxSteps:=999999) (disch:=omega) only[go_sem,ξ,ζ,gb]
        | false=>
          try simp(maxSteps:=999999) (disch:=omega) only[go_sem,ξ,ζ,gb]
          dsimp only[lpE];refine⟨i+1,?_,⟨inferInstance,by omega,fun j k=>?_⟩,by omega⟩
          · try simp(maxSteps:=999999) (disch:=omega) only[go_sem,ξ,ζ]
            all_goals rfl
          · rcases qBj j i with g |g
            · exact hj j g
            · obtain rfl:j=i:=by omega
              exact nxt (by rw[decide_eq_true (by omega)];rfl) gb
  · rw[okP_yes (fun j k=>hj j (by omega))]
    try simp(maxSteps:=999999) (disch:=omega) only[go_sem,ξ,ζ,hlt,decide_false]
open Go.Proofs Go.Proofs.YtpipfclemmbmcaaGreatDoor
open Go.ChangeShapes Go.WideShapes Go.ChangeAt Go.RowKit
theorem flVa:flds Tryz.prog 54=some [(9,0),(25,1)]:=by kernel_rfl
theorem unVa:Tryz.prog.underlying 47=some (.slice 54):=by kernel_rfl
theorem ceVa:Tryz.prog.cellsOf 54=4:=by kernel_rfl
section
variable {H:Type} {enc:TypeId×Value→H} {W:World} {sp:Nat→Bool} {held:Bool}
theorem open_value {fuel:Nat} {cs:List Value} {x:DataW H×List MemPlace} (h:DataW.trod enc Tryz.prog W 0 sp held fuel 54 cs=some x) {B:Nat} (hB:B≤1048576) (hk:Rows.uptoBulk x.1≤B):
  ∃(s:ByteArray) (neg:Bool) (n d:Nat) (a1:Option Addr) (m1 c1:Nat) (a2:Option Addr) (m2 c2:Nat),cs=[.string s,.bool neg,.slice a1 m1 c1,.slice a2 m2 c2]∧Rw (pub W) (.agg #[.bool neg,.slice a1 m1 c1,.slice a2 m2 c2]) neg n d:=by
 obtain⟨fs,hu,hf⟩:=flds_some flVa
 obtain⟨xs,n,rfl,rfl,hl,hsz,hg⟩:=DataW.trod_struct hu h
 rw[ceVa] at hl
 have hfs:fs.size=2:=by
  have:=congrArg List.length hf
  simpa using this
 match cs,hl with
 |[c0,c1,c2,c3],_=>
 have get:∀(i t o:Nat),(fs.toList.map fun f=>(f.type,f.offset))[i]?=some (t,o)→∃f:Field,fs[i]?=some f∧f.type=t∧f.offset=o:=by
  intro i t o hi
  rw[List.getElem?_map,Option.map_eq_some_iff] at hi
  obtain⟨f,h1,h2⟩:=hi
  cases h2
  exact⟨f,by simpa using h1,rfl,rfl⟩
 obtain⟨f0,k0,e0,o0⟩:=get 0 9 0 (by rw[hf];rfl)
 obtain⟨f1,k1,e1,o1⟩:=get 1 25 1 (by rw[hf];rfl)
 have g0:=hg 0 f0 k0
 have g1:=hg 1 f1 k1
 rw[e0,o0,ceSt] at g0
 rw[e1,o1,ce24] at g1
 rw[hfs] at hsz
 match xs,hsz with
 |[y0,y1],_=>
 simp only[List.drop_zero,List.take_succ_cons,List.take_zero,List.drop_succ_cons,List.getElem?_cons_zero,List.getElem?_cons_succ] at g0 g1
 simp only[Rows.uptoBulk,List.map_cons,List.map_nil,Rows.uptoBulkAll] at hk
 obtain⟨s,e0,_⟩:=DataW.trod_string unSt g0
 obtain⟨neg,nn,dd,hy,_⟩:=open_rat g1 hB (by omega)
 have hy0:=hy
 obtain⟨a1,c1',xs1,a2,c2',ys1,e2,_⟩:=hy0
 cases e0
 simp only[Value.agg.injEq,Array.mk.injEq,List.cons.injEq,and_true] at e2
 obtain⟨rfl,rfl,rfl⟩:=e2
 exact⟨s,neg,nn,dd,a1,_,c1',a2,_,c2',rfl,hy⟩
theorem open_point {fuel:Nat} {v:Value} {x:DataW H×List MemPlace} (h:DataW.trod enc Tryz.prog W 0 sp held fuel 47 [v]=some x) {B:Nat} (hB:B≤1048576) (hk:Rows.uptoBulk x.1≤B):
  ∃l:List Pv1,Ptv (pub W) v l:=by
 rcases DataW.trod_slice unVa h with⟨e,_⟩ |⟨a,len,cap,elems,rest,n,_,e,rfl,_,hl,hm,hlen,hel,_,_⟩
 ·cases e
  exact⟨[],none,0,rfl,by simp,fun i s h=>by simp at h⟩
 cases e
 simp only[Rows.uptoBulk] at hk
 have b1:=bulk_len (H:=H) (elems.map (·.1))
 rw[List.length_map,hlen] at b1
 obtain⟨l,hll,hP⟩:=list_of (fun i (s:Pv1)=>∃(a1:Option Addr) (m1 c1:Nat) (a2:Option Addr) (m2 c2:Nat),
   (∀j v,([.string s.1,.bool s.2.1,.slice a1 m1 c1,.slice a2 m2 c2]:List Value)[j]?=some v→(pub W).at ((a.add (i*4)).add j)=some v)∧
   Rw (pub W) (.agg #[.bool s.2.1,.slice a1 m1 c1,.slice a2 m2 c2]) s.2.1 s.2.2.1 s.2.2.2) len fun i hi=>by
  have he:=hel i hi
  obtain⟨y,hy⟩:∃y,elems[i]?=some y:=⟨_,List.getElem?_eq_getElem (by omega)⟩
  rw[hy,Option.bind_eq_some_iff,ceVa] at he
  obtain⟨cs,hc,ht⟩:=he
  have hb:=bulk_mem (d:=y.1) (l:=elems.map (·.1)) (List.mem_map.2 ⟨y,List.mem_of_getElem? hy,rfl⟩)
  obtain⟨s,neg,nn,dd,a1,m1,c1,a2,m2,c2,rfl,hz⟩:=open_value ht hB (by omega)
  have hc':=World.cells?_some hc
  refine⟨(s,neg,nn,dd),a1,m1,c1,a2,m2,c2,fun j v hj=>?_,hz⟩
  have:j < 4:=(List.getElem?_eq_some_iff.1 hj).1
  rw[pub_at,hc'.2.2 j this]
  exact hj
 refine⟨l,some a,cap,by rw[hll],by omega,fun i s hi=>?_⟩
 obtain⟨a1,m1,c1,a2,m2,c2,q1,q2⟩:=hP i s hi
 exact⟨a,a1,m1,c1,a2,m2,c2,rfl,q1,q2⟩
end

theorem RefIn {h0 h:PH} [Le h0 h] {v w:Value} {x:NS} {q:Rat} (hv:Rr h0 v x) (hw:Qr h0 w q) (hf:x.le (2^34)) (hq:sz q≤2^34):Spec mach 117 #[v,w] h (fun r _=>r=.bool (x.has q)) NP:=by
 rw[NS.le_ends (by decide)] at hf
 obtain⟨_,_,_,_,_,_,_,_,_,_,_,_,_,_,rfl,t1,t2⟩:=hv.sa
 obtain⟨_,_,_,_,_,_,_,rfl,t3⟩:=hw.sa
 cases x with
 | e=>
  dsimp only[NS.void]
  refine Spec.enter (args:=[_,_]) (n:=30) Tryz.func117 rfl (by kernel_rfl) rfl (by simp) [.tmp 4] rfl (fun C _=>?_)
  repeat (first |(refine wo rfl (fun k hk=>?_);simp(disch:=omega) only[go_sem,ξ,ζ];apply hk;clear hk k) |refine wkt rfl ?_ |refine wk0 ?_ |refine rg rfl rfl (fun K hK=>?_) |((first |refine ae ?_ |refine ac ?_);simp(disch:=decide) only[qs,qb,if_true,if_false,reduceIte]) |refine ah rfl (fun K hK=>?_) |refine ct rfl ?_ |((try simp(disch:=omega) only[go_sem,ξ,ζ]);(first |apply hK |(clear hK;apply hK) |(clear hK;clear hK;apply hK));clear hK;(try clear K);(try dsimp only[ag,qs,qb])))
  refine ai ?_;simp(disch:=omega) only[go_sem,ξ,ζ]
  all_goals rfl
 | i a b =>
  dsimp only[NS.void,NS.loN,NS.hiN,NS.lo0,NS.hi0] at*
  have k1:=fun {h} [Le h0 h]=>av (h:=h) t1 t3 hf.1 hq
  have k2:=fun {h} [Le h0 h]=>av (h:=h) t3 t2 hq hf.2
  cases a with
  | none=>
   cases b with
   | none=>
    dsimp only[Option.isNone,Option.getD] at*
    refine Spec.enter (args:=[_,_]) (n:=30) Tryz.func117 rfl (by kernel_rfl) rfl (by simp) [.tmp 4] rfl (fun C _=>?_)
    repeat (first |(refine wo rfl (fun k hk=>?_);simp(disch:=omega) only[go_sem,ξ,ζ];apply hk;clear hk k) |refine wkt rfl ?_ |refine wk0 ?_ |refine rg rfl rfl (fun K hK=>?_) |((first |refine ae ?_ |refine ac ?_);simp(disch:=decide) only[qs,qb,if_true,if_false,reduceIte]) |refine ah rfl (fun K hK=>?_) |refine ct rfl ?_ |((try simp(disch:=omega) only[go_sem,ξ,ζ]);(first |apply hK |(clear hK;apply hK) |(clear hK;clear hK;apply hK));clear hK;(try clear K);(try dsimp only[ag,qs,qb])))
    refine ai ?_;simp(disch:=omega) only[go_sem,ξ,ζ]
    all_goals rfl
   | some b=>
    dsimp only[Option.isNone,Option.getD] at*
    by_cases hb:b < q
    ·have e1:¬cmpQ q b≤0:=by unfold cmpQ;grind
     have e2:(NS.i none (some b)).has q=false:=by simp[NS.has,hb]
     rw[e2]
     refine Spec.enter (args:=[_,_]) (n:=30) Tryz.func117 rfl (by kernel_rfl) rfl (by simp) [.tmp 4] rfl (fun C _=>?_)
     repeat (first |(refine wo rfl (fun k hk=>?_);simp(disch:=omega) only[go_sem,ξ,ζ];apply hk;clear hk k) |refine wkt rfl ?_ |refine wk0 ?_ |refine rg rfl rfl (fun K hK=>?_) |((first |refine ae ?_ |refine ac ?_);simp(disch:=decide) only[qs,qb,if_true,if_false,reduceIte]) |refine ah rfl (fun K hK=>?_) |refine ct rfl ?_ |((try simp(disch:=omega) only[go_sem,ξ,ζ]);(first |apply hK |(clear hK;apply hK) |(clear hK;clear hK;apply hK));clear hK;(try clear K);(try dsimp only[ag,qs,qb])))
     refine cN rfl rfl rfl rfl (by exact k2) ?_;rintro v2 h2 s2 rfl;(repeat (first |(refine wo rfl (fun k hk=>?_);simp(disch:=omega) only[go_sem,ξ,ζ];apply hk;clear hk k) |refine wkt rfl ?_));(try refine wk0 ?_)
     (try (simp(disch:=omega) only[go_sem,ξ,ζ]));apply hK;clear hK;(try clear K);(try dsimp only[ag,qs])
     refine ai ?_;simp(disch:=omega) only[go_sem,ξ,ζ]
    ·have e1:cmpQ q b≤0:=by unfold cmpQ;grind
     have e2:(NS.i none (some b)).has q=true:=by simp[NS.has,hb]
     rw[e2]
     refine Spec.enter (args:=[_,_]) (n:=30) Tryz.func117 rfl (by kernel_rfl) rfl (by simp) [.tmp 4] rfl (fun C _=>?_)
     repeat (first |(refine wo rfl (fun k hk=>?_);simp(disch:=omega) only[go_sem,ξ,ζ];apply hk;clear hk k) |refine wkt rfl ?_ |refine wk0 ?_ |refine rg rfl rfl (fun K hK=>?_) |((first |refine ae ?_ |refine ac ?_);simp(disch:=decide) only[qs,qb,if_true,if_false,reduceIte]) |refine ah rfl (fun K hK=>?_) |refine ct rfl ?_ |((try simp(disch:=omega) only[go_sem,ξ,ζ]);(first |apply hK |(clear hK;apply hK) |(clear hK;clear hK;apply hK));clear hK;(try clear K);(try dsimp only[ag,qs,qb])))
     refine cN rfl rfl rfl rfl (by exact k2) ?_;rintro v2 h2 s2 rfl;(repeat (first |(refine wo rfl (fun k hk=>?_);simp(disch:=omega) only[go_sem,ξ,ζ];apply hk;clear hk k) |refine wkt rfl ?_));(try refine wk0 ?_)
     (try (simp(disch:=omega) only[go_sem,ξ,ζ]));apply hK;clear hK;(try clear K);(try dsimp only[ag,qs])
     refine ai ?_;simp(disch:=omega) only[go_sem,ξ,ζ]
  | some a=>
   by_cases ha:q < a
   ·have e1:¬cmpQ a q≤0:=by unfold cmpQ;grind
    have e2:(NS.i (some a) b).has q=false:=by simp[NS.has,ha]
    rw[e2]
    dsimp only[Option.isNone,Option.getD] at*
    refine Spec.enter (args:=[_,_]) (n:=30) Tryz.func117 rfl (by kernel_rfl) rfl (by simp) [.tmp 4] rfl (fun C _=>?_)
    repeat (first |(refine wo rfl (fun k hk=>?_);simp(disch:=omega) only[go_sem,ξ,ζ];apply hk;clear hk k) |refine wkt rfl ?_ |refine wk0 ?_ |refine rg rfl rfl (fun K hK=>?_) |((first |refine ae ?_ |refine ac ?_);simp(disch:=decide) only[qs,qb,if_true,if_false,reduceIte]) |refine ah rfl (fun K hK=>?_) |refine ct rfl ?_ |((try simp(disch:=omega) only[go_sem,ξ,ζ]);(first |apply hK |(clear hK;apply hK) |(clear hK;clear hK;apply hK));clear hK;(try clear K);(try dsimp only[ag,qs,qb])))
    refine cN rfl rfl rfl rfl (by exact k1) ?_;rintro v1 h1 s1 rfl;(repeat (first |(refine wo rfl (fun k hk=>?_);simp(disch:=omega) only[go_sem,ξ,ζ];apply hk;clear hk k) |refine wkt rfl ?_));(try refine wk0 ?_)
    (try (simp(disch:=omega) only[go_sem,ξ,ζ]));apply hK;clear hK;(try clear K);(try dsimp only[ag,qs])
    refine ai ?_;simp(disch:=omega) only[go_sem,ξ,ζ]
   ·have e1:cmpQ a q≤0:=by unfold cmpQ;grind
    cases b with
    | none=>
     have e2:(NS.i (some a) none).has q=true:=by simp[NS.has,ha]
     rw[e2]
     dsimp only[Option.isNone,Option.getD] at*
     refine Spec.enter (args:=[_,_]) (n:=30) Tryz.func117 rfl (by kernel_rfl) rfl (by simp) [.tmp 4] rfl (fun C _=>?_)
     repeat (first |(refine wo rfl (fun k hk=>?_);simp(disch:=omega) only[go_sem,ξ,ζ];apply hk;clear hk k) |refine wkt rfl ?_ |refine wk0 ?_ |refine rg rfl rfl (fun K hK=>?_) |((first |refine ae ?_ |refine ac ?_);simp(disch:=decide) only[qs,qb,if_true,if_false,reduceIte]) |refine ah rfl (fun K hK=>?_) |refine ct rfl ?_ |((try simp(disch:=omega) only[go_sem,ξ,ζ]);(first |apply hK |(clear hK;apply hK) |(clear hK;clear hK;apply hK));clear hK;(try clear K);(try dsimp only[ag,qs,qb])))
     refine cN rfl rfl rfl rfl (by exact k1) ?_;rintro v1 h1 s1 rfl;(repeat (first |(refine wo rfl (fun k hk=>?_);simp(disch:=omega) only[go_sem,ξ,ζ];apply hk;clear hk k) |refine wkt rfl ?_));(try refine wk0 ?_)
     (try (simp(disch:=omega) only[go_sem,ξ,ζ]));apply hK;clear hK;(try clear K);(try dsimp only[ag,qs])
     refine ai ?_;simp(disch:=omega) only[go_sem,ξ,ζ]
    | some b=>
     dsimp only[Option.isNone,Option.getD] at*
     by_cases hb:b < q
     ·have e3:¬cmpQ q b≤0:=by unfold cmpQ;grind
      have e2:(NS.i (some a) (some b)).has q=false:=by simp[NS.has,ha,hb]
      rw[e2]
      refine Spec.enter (args:=[_,_]) (n:=30) Tryz.func117 rfl (by kernel_rfl) rfl (by simp) [.tmp 4] rfl (fun C _=>?_)
      repeat (first |(refine wo rfl (fun k hk=>?_);simp(disch:=omega) only[go_sem,ξ,ζ];apply hk;clear hk k) |refine wkt rfl ?_ |refine wk0 ?_ |refine rg rfl rfl (fun K hK=>?_) |((first |refine ae ?_ |refine ac ?_);simp(disch:=decide) only[qs,qb,if_true,if_false,reduceIte]) |refine ah rfl (fun K hK=>?_) |refine ct rfl ?_ |((try simp(disch:=omega) only[go_sem,ξ,ζ]);(first |apply hK |(clear hK;apply hK) |(clear hK;clear hK;apply hK));clear hK;(try clear K);(try dsimp only[ag,qs,qb])))
      refine cN rfl rfl rfl rfl (by exact k1) ?_;rintro v1 h1 s1 rfl;(repeat (first |(refine wo rfl (fun k hk=>?_);simp(disch:=omega) only[go_sem,ξ,ζ];apply hk;clear hk k) |refine wkt rfl ?_));(try refine wk0 ?_)
      refine cN rfl rfl rfl rfl (by exact k2) ?_;rintro v2 h2 s2 rfl;(repeat (first |(refine wo rfl (fun k hk=>?_);simp(disch:=omega) only[go_sem,ξ,ζ];apply hk;clear hk k) |refine wkt rfl ?_));(try refine wk0 ?_)
      (try (simp(disch:=omega) only[go_sem,ξ,ζ]));apply hK;clear hK;(try clear K);(try dsimp only[ag,qs])
      refine ai ?_;simp(disch:=omega) only[go_sem,ξ,ζ]
     ·have e3:cmpQ q b≤0:=by unfold cmpQ;grind
      have e2:(NS.i (some a) (some b)).has q=true:=by simp[NS.has,ha,hb]
      rw[e2]
      refine Spec.enter (args:=[_,_]) (n:=30) Tryz.func117 rfl (by kernel_rfl) rfl (by simp) [.tmp 4] rfl (fun C _=>?_)
      repeat (first |(refine wo rfl (fun k hk=>?_);simp(disch:=omega) only[go_sem,ξ,ζ];apply hk;clear hk k) |refine wkt rfl ?_ |refine wk0 ?_ |refine rg rfl rfl (fun K hK=>?_) |((first |refine ae ?_ |refine ac ?_);simp(disch:=decide) only[qs,qb,if_true,if_false,reduceIte]) |refine ah rfl (fun K hK=>?_) |refine ct rfl ?_ |((try simp(disch:=omega) only[go_sem,ξ,ζ]);(first |apply hK |(clear hK;apply hK) |(clear hK;clear hK;apply hK));clear hK;(try clear K);(try dsimp only[ag,qs,qb])))
      refine cN rfl rfl rfl rfl (by exact k1) ?_;rintro v1 h1 s1 rfl;(repeat (first |(refine wo rfl (fun k hk=>?_);simp(disch:=omega) only[go_sem,ξ,ζ];apply hk;clear hk k) |refine wkt rfl ?_));(try refine wk0 ?_)
      refine cN rfl rfl rfl rfl (by exact k2) ?_;rintro v2 h2 s2 rfl;(repeat (first |(refine wo rfl (fun k hk=>?_);simp(disch:=omega) only[go_sem,ξ,ζ];apply hk;clear hk k) |refine wkt rfl ?_));(try refine wk0 ?_)
      (try (simp(disch:=omega) only[go_sem,ξ,ζ]));apply hK;clear hK;(try clear K);(try dsimp only[ag,qs])
      refine ai ?_;simp(disch:=omega) only[go_sem,ξ,ζ]
theorem Br.u {r r':Value} {o:Except Int Bool} (h:Br r o) (h':Br r' o):r'=r:=by
 cases o with
 |ok b=>cases(h:r=_);exact h'
 |error e=>cases(h:r=_);exact h'
end Go.Q
