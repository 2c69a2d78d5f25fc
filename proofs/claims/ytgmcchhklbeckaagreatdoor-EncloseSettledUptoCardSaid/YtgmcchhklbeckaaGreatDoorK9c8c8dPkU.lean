/-
  Reading points out of the arguments, and what stands on it. Conditions: each theorem's own.
-/
import Derived.Test.YtgmcchhklbeckaaGreatDoorKdab1e0PkO
import Derived.Test.YtgmcchhklbeckaaGreatDoorK3a8f22PkR
import Derived.Test.YtgmcchhklbeckaaGreatDoorKe4358bPkS
import Derived.Test.YtgmcchhklbeckaaGreatDoorK61d659PkT
set_option linter.unusedVariables false
set_option linter.unusedSimpArgs false
open Nat renaming reduceBEq→ξ,reduceAdd→ζ
open Bool renaming and_eq_true→φ
open List renaming all_eq_true→qBd
namespace Go.Q
open Go.Proofs Go.Proofs.YtgmcchhklbeckaaGreatDoor
set_option maxRecDepth 100000
open Go.ChangeShapes Go.WideShapes Go.ChangeAt Go.RowKit
theorem flVa:flds Tryz.prog 105=some [(9,0),(24,1)]:=by kernel_rfl
theorem unVa:Tryz.prog.underlying 41=some (.slice 105):=by kernel_rfl
theorem ceVa:Tryz.prog.cellsOf 105=4:=by kernel_rfl
section
variable {H:Type} {enc:TypeId×Value→H} {W:World} {sp:Nat→Bool} {held:Bool}
theorem open_value {fuel:Nat} {cs:List Value} {x:DataW H×List MemPlace} (h:DataW.trod enc Tryz.prog W 0 sp held fuel 105 cs=some x) {B:Nat} (hB:B≤1048576) (hk:Rows.uptoBulk x.1≤B):
  ∃(s:ByteArray) (neg:Bool) (n d:Nat) (a1:Option Addr) (m1 c1:Nat) (a2:Option Addr) (m2 c2:Nat),cs=[.string s,.bool neg,.slice a1 m1 c1,.slice a2 m2 c2]∧Rw (pub W) (.agg #[.bool neg,.slice a1 m1 c1,.slice a2 m2 c2]) neg n d:=by
 obtain⟨fs,hu,hf⟩:=flds_some flVa
 obtain⟨xs,n,rfl,rfl,hl,hsz,hg⟩:=DataW.trod_struct hu h
 rw[ceVa] at hl
 have hfs:fs.size=2:=by
  have:=congrArg List.length hf
  simpa using this
 match cs,hl with
 |[c0,c1,c2,c3],_=>
 have get:∀(i t o:Nat),(fs.toList.map fun f=>(f.type,f.offset))[i]?=some (t,o)→∃f:Field,fs[i]?=some f∧f.type=t∧f.offset=o:=by
  intro i t o hi
  rw[List.getElem?_map,Option.map_eq_some_iff] at hi
  obtain⟨f,h1,h2⟩:=hi
  cases h2
  exact⟨f,by simpa using h1,rfl,rfl⟩
 obtain⟨f0,k0,e0,o0⟩:=get 0 9 0 (by rw[hf];rfl)
 obtain⟨f1,k1,e1,o1⟩:=get 1 24 1 (by rw[hf];rfl)
 have g0:=hg 0 f0 k0
 have g1:=hg 1 f1 k1
 rw[e0,o0,ceSt] at g0
 rw[e1,o1,ce24] at g1
 rw[hfs] at hsz
 match xs,hsz with
 |[y0,y1],_=>
 simp only[List.drop_zero,List.take_succ_cons,List.take_zero,List.drop_succ_cons,List.getElem?_cons_zero,List.getElem?_cons_succ] at g0 g1
 simp only[Rows.uptoBulk,List.map_cons,List.map_nil,Rows.uptoBulkAll] at hk
 obtain⟨s,e0,_⟩:=DataW.trod_string unSt g0
 obtain⟨neg,nn,dd,hy,_⟩:=open_rat g1 hB (by omega)
 have hy0:=hy
 obtain⟨a1,c1',xs1,a2,c2',ys1,e2,_⟩:=hy0
 cases e0
 simp only[Value.agg.injEq,Array.mk.injEq,List.cons.injEq,and_true] at e2
 obtain⟨rfl,rfl,rfl⟩:=e2
 exact⟨s,neg,nn,dd,a1,_,c1',a2,_,c2',rfl,hy⟩
theorem open_point {fuel:Nat} {v:Value} {x:DataW H×List MemPlace} (h:DataW.trod enc Tryz.prog W 0 sp held fuel 41 [v]=some x) {B:Nat} (hB:B≤1048576) (hk:Rows.uptoBulk x.1≤B):
  ∃l:List Pv1,Ptv (pub W) v l:=by
 rcases DataW.trod_slice unVa h with⟨e,_⟩ |⟨a,len,cap,elems,rest,n,_,e,rfl,_,hl,hm,hlen,hel,_,_⟩
 ·cases e
  exact⟨[],none,0,rfl,by simp,fun i s h=>by simp at h⟩
 cases e
 simp only[Rows.uptoBulk] at hk
 have b1:=bulk_len (H:=H) (elems.map (·.1))
 rw[List.length_map,hlen] at b1
 obtain⟨l,hll,hP⟩:=list_of (fun i (s:Pv1)=>∃(a1:Option Addr) (m1 c1:Nat) (a2:Option Addr) (m2 c2:Nat),
   (∀j v,([.string s.1,.bool s.2.1,.slice a1 m1 c1,.slice a2 m2 c2]:List Value)[j]?=some v→(pub W).at ((a.add (i*4)).add j)=some v)∧
   Rw (pub W) (.agg #[.bool s.2.1,.slice a1 m1 c1,.slice a2 m2 c2]) s.2.1 s.2.2.1 s.2.2.2) len fun i hi=>by
  have he:=hel i hi
  obtain⟨y,hy⟩:∃y,elems[i]?=some y:=⟨_,List.getElem?_eq_getElem (by omega)⟩
  rw[hy,Option.bind_eq_some_iff,ceVa] at he
  obtain⟨cs,hc,ht⟩:=he
  have hb:=bulk_mem (d:=y.1) (l:=elems.map (·.1)) (List.mem_map.2 ⟨y,List.mem_of_getElem? hy,rfl⟩)
  obtain⟨s,neg,nn,dd,a1,m1,c1,a2,m2,c2,rfl,hz⟩:=open_value ht hB (by omega)
  have hc':=World.cells?_some hc
  refine⟨(s,neg,nn,dd),a1,m1,c1,a2,m2,c2,fun j v hj=>?_,hz⟩
  have:j < 4:=(List.getElem?_eq_some_iff.1 hj).1
  rw[pub_at,hc'.2.2 j this]
  exact hj
 refine⟨l,some a,cap,by rw[hll],by omega,fun i s hi=>?_⟩
 obtain⟨a1,m1,c1,a2,m2,c2,q1,q2⟩:=hP i s hi
 exact⟨a,a1,m1,c1,a2,m2,c2,rfl,q1,q2⟩
end
end Go.Q
namespace Go.Q
open Go.Proofs Go.RowKit
set_option maxRecDepth 100000
set_option maxHeartbeats 8000000
def ptS (s:ByteArray×Rat):Sd1:=(s.1,(NS.i (some s.2) (some s.2)).ri)
theorem Pbx.box {h:PH} {v:Value} {l:List (ByteArray×Rat)} (r:Pbx h v l) (hn:l.length≤2^30) (hle:∀x∈l,(NS.i (some x.2) (some x.2)).le 2048):Boxv h v (l.map ptS):=by
 obtain⟨a,c,rfl,k⟩:=r
 refine⟨a,c,by rw[List.length_map],by rw[List.length_map];exact hn,fun i s hi=>?_⟩
 rw[List.getElem?_map,Option.map_eq_some_iff] at hi
 obtain⟨x,hx,rfl⟩:=hi
 obtain⟨ad,cs,h1,⟨ds,rfl,e2,e3⟩,h3⟩:=k i x hx
 obtain⟨b1,a1,m1,c1,a2,m2,c2,b2,a3,m3,c3,a4,m4,c4,e,u,q1,q2⟩:=e3.sa
 have q1:ds=_:=congrArg Array.toList (Value.agg.inj q1)
 subst q1
 exact⟨ad,b1,a1,m1,c1,a2,m2,c2,b2,a3,m3,c3,a4,m4,c4,e,u,h1,h3,q2.iv (hle x (List.mem_of_getElem? hx))⟩
theorem pt_le {p:List Pv1} (h:okP p=true):∀x∈p.map nq,(NS.i (some x.2) (some x.2)).le 2048:=by
 intro x hx
 obtain⟨y,hy,rfl⟩:=List.mem_map.1 hx
 obtain⟨i,hi⟩:=List.getElem?_of_mem hy
 exact fin_le (pt_fin (okP_big h hi))
theorem pt_set (q:Rat):(NS.i (some q) (some q)).ri.set=.i (some q) (some q):=NS.ri_set (by show ordO _ _=true;simp[ordO])
theorem pt_narrow {b:List Sd1} {p:List Pv1} (h:atOk b p=true):okB ((p.map nq).map ptS)=true∧narP ((p.map nq).map ptS) b:=by
 unfold atOk at h
 simp only[φ] at h
 obtain⟨hb,hp,hi⟩:=h
 have hl:=inB_len hi
 have h6:=okB_six hb
 have hle:=pt_le hp
 have get:∀(i:Nat) x,((p.map nq).map ptS)[i]?=some x→∃y,p[i]?=some y∧x=ptS (nq y)∧(NS.i (some (nq y).2) (some (nq y).2)).le 2048:=by
  intro i x hx
  rw[List.getElem?_map,List.getElem?_map,Option.map_eq_some_iff] at hx
  obtain⟨z,hz,rfl⟩:=hx
  rw[Option.map_eq_some_iff] at hz
  obtain⟨y,hy,rfl⟩:=hz
  exact⟨y,hy,rfl,hle _ (List.mem_map.2 ⟨y,List.mem_of_getElem? hy,rfl⟩)⟩
 refine⟨okB_yes (by simp;omega) fun j hj=>?_,by simpa using hl,fun i x z hx hz=>?_⟩
 ·simp only[List.length_map] at hj
  have k:=qBd.1 hp j (List.mem_range.2 hj)
  unfold okP1 at k
  unfold okS
  rw[List.getElem?_map,List.getElem?_map,List.getElem?_map,List.getElem?_map]
  rw[List.getElem?_eq_getElem hj] at k ⊢
  rw[List.getElem?_eq_getElem (show j - 1 < p.length by omega)] at k ⊢
  dsimp only[Option.map_some] at k ⊢
  simp only[φ,Bool.not_eq_true',decide_eq_false_iff_not] at k ⊢
  have hle':=hle _ (List.mem_map.2 ⟨p[j],List.getElem_mem hj,rfl⟩)
  refine⟨⟨k.1,NS.ri_big hle'⟩,?_⟩
  unfold ptS
  dsimp only
  rw[pt_set];rfl
 ·obtain⟨y,hy,rfl,hle'⟩:=get i x hx
  have k:=qBd.1 (by unfold inB at hi;exact(Bool.and_eq_true_iff.1 hi).2) i (List.mem_range.2 (List.getElem?_eq_some_iff.1 hy).1)
  unfold inS at k
  rw[hz,hy] at k
  simp only[φ] at k
  refine⟨show y.1.toList=z.1.toList by simpa using k.1,?_⟩
  unfold inXB ptS
  dsimp only
  rw[NS.ri_big hle',okB_big hb hz,pt_set]
  simp only[Bool.or_self,Bool.not_false,Bool.true_and]
  cases hs:z.2.set with
  |e=>rw[hs] at k;exact absurd k.2 (by simp[NS.has])
  | i c d=>
   rw[hs] at k
   obtain⟨k1,k2⟩:=NS.has_i.1 k.2
   rw[cK,dp,cJ]
   exact⟨fun u hu=>⟨_,rfl,k1 u hu⟩,fun u hu=>⟨_,rfl,k2 u hu⟩⟩
end Go.Q
namespace Go.Q
open Go.Proofs Go.RowKit
set_option maxRecDepth 100000
set_option maxHeartbeats 8000000
theorem rg_nz {ve:Bool} {l:List Sd1} {p:Int} {e:Exq} {k:Int} (g1:Rgo (Rdy ve l p e) (evX (bxF l) p e) (.error k)):k≠0:=fun hk=>by
 subst hk
 by_cases hh:Rdy ve l p e
 ·have:=g1.1 hh
  cases o:evX (bxF l) p e with
  |ok z=>rw[o] at this;cases this
  | error k=>
   rw[o] at this
   have k1:=ev_nz k o
   have:(0:Int)=undE k:=Except.error.inj this
   unfold undE at this
   cases g:k == 10<;>rw[g] at this
   ·exact k1 this.symm
   ·cases this
 ·obtain⟨k,k1,k2⟩:=g1.2 hh
  cases k2;exact k1 rfl
theorem set_law {b c:List Sd1} {p p':Int} {e:Exq} {ve:Bool} {z:NS} {q q2:Out} (n:narP c b) (oc:okB c=true) (hp:p≤p') (hp':p'≤128∨p'=p) (h1:Rgo (Rdy ve b p e) (evX (bxF b) p e) q) (hq:q=.ok z) (h2:Rgo (Rdy ve c p' e) (evX (bxF c) p' e) q2):q2=.error 1∨∃y,q2=.ok y:=by
 have hr:Rdy ve b p e:=by
  apply Classical.byContradiction
  intro k
  obtain⟨e,_,h⟩:=h1.2 k
  rw[hq] at h;cases h
 have gp:=jt hr.2.2.1
 have gp':bad p'=false:=by
  unfold bad
  simp only[Bool.or_eq_false_iff,decide_eq_false_iff_not]
  omega
 have hr2:Rdy ve c p' e:=⟨hr.1,oc,gp',fun nm hm=>by rw[n.fnd];exact hr.2.2.2 nm hm⟩
 have e1:=h1.1 hr
 have e2:=h2.1 hr2
 rw[hq] at e1
 cases o:evX (bxF b) p e with
 |error k=>rw[o] at e1;cases e1
 | ok L=>
  rw[o] at e1
  cases e1
  rcases evx_fine (B:=bxF b) (B':=bxF c) hr.2.2.1 gp' hp n.bx e z o with g |⟨S,g,g2,g3⟩
  ·rw[g] at e2
   exact .inl e2
  ·rw[g] at e2
   exact .inr ⟨S,e2⟩
theorem Settled_law {h0 h:PH} [Le h0 h] {e:Exq} {ev v w:Value} {b:List Sd1} {pt:List Pv1} {p fine:Int} (he:Xv h0 e ev) (hb:Boxv h0 v b) (hw:Ptv h0 w pt) (hf:0≤fine∧fine≤255):Spec mach 4 #[ev,v,w,.int .i64 p,.int .u8 fine] h (fun r _=>r=.bool true) NP:=by
 obtain⟨bw,hwo,kW⟩:=Without_spec e
 obtain⟨ve,hve,kE⟩:=EValidX_spec e
 have hm0:0≤fine.tmod 129:=Int.tmod_nonneg _ hf.1
 have hm1:fine.tmod 129 < 129:=Int.tmod_lt_of_pos _ (by decide)
 have kH:=fun {h:PH} [Le h0 h]=>Heavy_spec (h:=h) he (p:=p) (m:=100) (by decide)
 have kW:=fun {h:PH} [Le h0 h]=>kW (h0:=h0) (h:=h) he
 have kA:=fun {h:PH} [Le h0 h]=>At_p (h:=h) hb hw
 have kL:=fun(g:woX e) {h:PH} [Le h0 h]=>RangeX_spec (h:=h) (p:=p) he hb hve g (fun {h} [Le h0 h]=>kE he)
 have kS:=fun(g:woX e) {h1 h:PH} [Le h0 h1] [Le h1 h] {u:Value} {c:List Sd1} {p':Int} (hc:Boxv h1 u c)=>RangeX_spec (h0:=h1) (h:=h) (p:=p') (he.to (h':=h1)) hc hve g (fun {h} [Le h1 h]=>kE (he.to (h':=h1)))
 have hnz:=fun {k}=>rg_nz (ve:=ve) (l:=b) (p:=p) (e:=e) (k:=k)
 have law:=fun {c p' z q q2}=>set_law (b:=b) (c:=c) (p:=p) (p':=p') (e:=e) (ve:=ve) (z:=z) (q:=q) (q2:=q2)
 obtain⟨va,vm,vc,rfl⟩:=hb.sa
 obtain⟨wa,wm,wc,rfl⟩:=hw.sa
 generalize hR1:Rgo (Rdy ve b p e) (evX (bxF b) p e)=R1 at*
 have ho:∃op arg num name n kid,e=.mk op arg num name n kid:=by
  cases e with
  |no=>exact he.elim
  |mk op arg num name n kid=>exact⟨_,_,_,_,_,_,rfl⟩
 obtain⟨op,arg,num,name,n,kid,rfl⟩:=ho
 obtain⟨a,c,⟨a1,m1,c1,a2,m2,c2,rfl,_⟩,_⟩:=he
 refine Spec.go [] Tryz.func4 rfl rfl (by kernel_rfl) fun C _=>?_
 try simp(disch:=omega) only[go_sem,ξ,ζ]
 refine caN (by exact kH) ?_;rintro _ h1 s1 ⟨b1,rfl⟩
 cases b1 with
 | true=>
  try simp(disch:=omega) only[go_sem,ξ,ζ]
  refine caN (by exact awake05_spec) ?_;rintro _ h2 s2 rfl
  try simp(disch:=omega) only[go_sem,ξ,ζ]
  all_goals rfl
 | false =>
  try simp(disch:=omega) only[go_sem,ξ,ζ]
  refine caN (by exact kW) ?_;rintro _ h2 s2 rfl
  cases bw with
  | false=>
   try simp(disch:=omega) only[go_sem,ξ,ζ]
   refine caN (by exact awake05_spec) ?_;rintro _ h3 s3 rfl
   try simp(disch:=omega) only[go_sem,ξ,ζ]
   all_goals rfl
  | true=>
   have kL':=fun {h:PH} [Le h0 h]=>kL (hwo rfl) (h:=h)
   try simp(disch:=omega) only[go_sem,ξ,ζ]
   refine caN (by exact kL') ?_;rintro _ h5 s5 ⟨q1,r1,g1⟩
   cases q1 with
   | error k=>
    obtain rfl:=r1
    have k0:(k != 0)=true:=by have:=hnz g1;simpa using this
    unfold zIv
    try simp(disch:=omega) only[go_sem,ξ,ζ,k0]
    refine caN (by exact awake05_spec) ?_;rintro _ h6 s6 rfl
    try simp(disch:=omega) only[go_sem,ξ,ζ]
    all_goals rfl
   | ok z=>
    obtain⟨u,rfl,z1⟩:=r1;obtain⟨_,_,_,_,_,_,_,_,_,_,_,_,_,_,_,_,rfl,z1⟩:=z1.sa
    try simp(disch:=omega) only[go_sem,ξ,ζ]
    refine caN (by exact kA) ?_;rintro _ h6 s6 r6
    unfold AtR at r6
    cases ha:atOk b pt with
    | false=>
     rw[ha] at r6
     obtain rfl:=r6
     try simp(disch:=omega) only[go_sem,ξ,ζ]
     refine caN (by exact awake05_spec) ?_;rintro _ h7 s7 rfl
     try simp(disch:=omega) only[go_sem,ξ,ζ]
     all_goals rfl
    | true=>
     rw[ha] at r6
     obtain⟨u,rfl,hu⟩:=r6
     obtain⟨nb,nn⟩:=pt_narrow ha
     have hp2:okP pt=true:=by unfold atOk at ha;simp only[φ] at ha;exact ha.2.1
     have hpn:pt.length≤2^30:=by obtain⟨_,_,_,q,_⟩:=hw;exact q
     have hc:=hu.box (by rw[List.length_map];exact hpn) (pt_le hp2)
     obtain⟨ua,um,uc,rfl⟩:=hc.sa
     have fin:∀p',p≤p'→(p'≤128∨p'=p)→∀{h:PH} [Le h6 h],Spec mach 11 #[.agg #[.int .i64 op,.int .i64 arg,.bool num.1,.slice a1 m1 c1,.slice a2 m2 c2,.string name,.slice a n c],.slice ua um uc,.int .i64 p'] h (fun r h'=>∃(q:Out),Ir h' r q∧(q=.error 1∨∃y,q=.ok y)) NP:=fun p' x1 x2 {h} [Le h6 h]=>
      (kS (hwo rfl) (h:=h) (p':=p') hc).mono (fun r h' _ ⟨q,y1,y2⟩=>⟨q,y1,law nn nb x1 x2 g1 rfl y2⟩) (fun _ _ _ q=>q)
     by_cases hg:fine.tmod 129 > p
     ·have kR:=fun {h:PH} [Le h6 h]=>fin (fine.tmod 129) (by omega) (by omega) (h:=h)
      try simp(disch:=omega) only[go_sem,ξ,ζ,hg,if_true]
      refine caN (by exact kR) ?_;rintro _ h7 s7 ⟨q2,r2,hl⟩
      rcases hl with rfl |⟨y,rfl⟩
      ·obtain rfl:=r2
       unfold zIv
       try simp(disch:=omega) only[go_sem,ξ,ζ]
       refine caN (by exact awake05_spec) ?_;rintro _ h8 s8 rfl
       try simp(disch:=omega) only[go_sem,ξ,ζ]
       all_goals rfl
      ·obtain⟨u,rfl,c2⟩:=r2;obtain⟨_,_,_,_,_,_,_,_,_,_,_,_,_,_,_,_,rfl,c2⟩:=c2.sa
       try simp(disch:=omega) only[go_sem,ξ,ζ]
       refine caN (by exact awake05_spec) ?_;rintro _ h8 s8 rfl
       try simp(disch:=omega) only[go_sem,ξ,ζ]
       all_goals rfl
     ·have kR:=fun {h:PH} [Le h6 h]=>fin p (by omega) (by omega) (h:=h)
      try simp(disch:=omega) only[go_sem,ξ,ζ,hg,if_false]
      refine caN (by exact kR) ?_;rintro _ h7 s7 ⟨q2,r2,hl⟩
      rcases hl with rfl |⟨y,rfl⟩
      ·obtain rfl:=r2
       unfold zIv
       try simp(disch:=omega) only[go_sem,ξ,ζ]
       refine caN (by exact awake05_spec) ?_;rintro _ h8 s8 rfl
       try simp(disch:=omega) only[go_sem,ξ,ζ]
       all_goals rfl
      ·obtain⟨u,rfl,c2⟩:=r2;obtain⟨_,_,_,_,_,_,_,_,_,_,_,_,_,_,_,_,rfl,c2⟩:=c2.sa
       try simp(disch:=omega) only[go_sem,ξ,ζ]
       refine caN (by exact awake05_spec) ?_;rintro _ h8 s8 rfl
       try simp(disch:=omega) only[go_sem,ξ,ζ]
       all_goals rfl
end Go.Q
