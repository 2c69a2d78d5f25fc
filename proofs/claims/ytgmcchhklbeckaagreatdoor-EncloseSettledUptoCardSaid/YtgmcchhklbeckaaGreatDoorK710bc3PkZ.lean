/-
  What goes over the nodes of an expression. Conditions: the expression lies in memory (Xv).
-/
import Derived.Test.YtgmcchhklbeckaaGreatDoorKda9756PkA
set_option linter.unusedVariables false
set_option linter.unusedSimpArgs false
open Nat renaming reduceAdd→ζ,le_trans→χ,le_refl→η,zero_le→qBh,lt_or_ge→qBj
open List renaming length_append→qAp,mem_cons_self→qAt
namespace Go.Q
open Go.Proofs Go.RowKit Go.Shelf Go.Maps
attribute [local go_sem] Oper.semAt_some
set_option maxRecDepth 100000
set_option maxHeartbeats 8000000
structure XN where
 op:Int
 arg:Int
 b:Bool
 a1:Option Addr
 m1:Nat
 c1:Nat
 a2:Option Addr
 m2:Nat
 c2:Nat
 name:ByteArray
 a:Option Addr
 n:Nat
 c:Nat
 ok:op=2→name.size≤8
def XN.v (x:XN):Value:=.agg #[.int .i64 x.op,.int .i64 x.arg,.bool x.b,.slice x.a1 x.m1 x.c1,.slice x.a2 x.m2 x.c2,.string x.name,.slice x.a x.n x.c]
def XN.key (x:XN):Int×ByteArray:=(x.op,x.name)
inductive XT where
 |no
 |mk (x:XN) (kid:Nat→XT)
def XT.nd:XT→XN
 |.no=>⟨0,0,false,none,0,0,none,0,0,⟨#[]⟩,none,0,0,fun h=>(by cases h)⟩
 |.mk x _=>x
def XN.cs (x:XN):List Value:=[.int .i64 x.op,.int .i64 x.arg,.bool x.b,.slice x.a1 x.m1 x.c1,.slice x.a2 x.m2 x.c2,.string x.name,.slice x.a x.n x.c]
def XTin (n0:Nat) (W:World):XT→Prop
 |.no=>False
 |.mk x kid=>x.n≤2^30∧∀i,i < x.n→∃kb ko,x.a=some ⟨kb,ko,none⟩∧kb < n0∧(∃cs T f,W.heap[kb]?=some (.cells cs T f)∧∀(j:Nat) u,(kid i).nd.cs[j]?=some u→cs[ko+i*7+j]?=some u)∧XTin n0 W (kid i)
theorem XTin.low {n0:Nat} {W W':World} (k:Below n0 W W') {t:XT}:XTin n0 W t→XTin n0 W' t:=by
 induction t with
 |no=>exact fun h=>h.elim
 | mk x kid ih=>
  rintro⟨h0,h⟩
  refine⟨h0,fun i hi=>?_⟩
  obtain⟨kb,ko,e,hb,⟨cs,T,f,h1,h2⟩,h3⟩:=h i hi
  exact⟨kb,ko,e,hb,⟨cs,T,f,(k.block kb hb).trans h1,h2⟩,ih i h3⟩
def nodesX:XT→List (Int×ByteArray)
 |.no=>[]
 |.mk x kid=>x.key :: (List.range x.n).flatMap fun i=>nodesX (kid i)
theorem fm_le {α:Type} (f:Nat→List α) {i:Nat}:∀{n:Nat},i≤n→((List.range i).flatMap f).length≤((List.range n).flatMap f).length
  | 0, h => by obtain rfl:i=0:=by omega
               exact η _
  | n +1,h=>by
    rcases qBj n i with g |g
    · obtain rfl:i=n+1:=by omega
      exact η _
    · refine χ (fm_le f g) ?_
      rw[List.range_succ,List.flatMap_append,qAp]
      omega
theorem each_e {F:Fence} (hd:F.depth=none) (hf:F.fn 155) (hro:F.round=none) {l n0 n1 N:Nat} {J Jx:List XN→World→Prop} (hJ:∀s A B,J s A→A.grownBy B none→J s B)
  (hY:∀m pre x W,J pre W→pre.length < N→YieldAt F m Tryz.prog l #[XN.v x] W fun e W'=>
   (e=.returned (.bool true)∧J (pre ++[x]) W'∧KpV n0 n1 W W')∨(e=.returned (.bool false)∧Jx (pre ++[x]) W')) (hn:n0≤n1) (t:XT):
  ∀(n:Nat) {pre:List XN} {W:World},J pre W→pre.length+(nodesX t).length≤N→n1≤W.heap.size→XTin n0 W t→
  CallsIn F n Tryz.prog 155 #[t.nd.v,.func (.yield l) #[] #[]] W fun e' W'=>
   (e'=.returned (.bool true)∧(∃ys:List XN,ys.map XN.key=nodesX t∧J (pre ++ys) W')∧KpV n0 n1 W W')∨(e'=.returned (.bool false)∧∃q,Jx q W'):=by
 have hdd:∀k:Nat,(F.depth.isSome=true→1≤k):=fun k h=>by rw[hd] at h;cases h
 induction t with
 | no=>
  intro n pre W h0 hN hW hk
  exact hk.elim
 | mk x kid ih=>
  intro n pre W h0 hN hW hk
  have hlen:(nodesX (.mk x kid)).length=1+((List.range x.n).flatMap fun i=>nodesX (kid i)).length:=by rw[nodesX,List.length_cons];omega
  have hgr:=World.grownBy_alloc W (.cells #[.int .i64 x.op,.int .i64 x.arg,.bool x.b,.slice x.a1 x.m1 x.c1,.slice x.a2 x.m2 x.c2,.string x.name,.slice x.a x.n x.c] 27) none
  obtain⟨fn,tmps,assign,body,hy,hR⟩:=hY (n - 1) pre x (W.alloc (.cells #[.int .i64 x.op,.int .i64 x.arg,.bool x.b,.slice x.a1 x.m1 x.c1,.slice x.a2 x.m2 x.c2,.string x.name,.slice x.a x.n x.c] 27)) (hJ _ _ _ h0 hgr) (by omega)
  dsimp only[XT.nd]
  unfold XTin at hk
  unfold XN.v at hy ⊢
  obtain⟨op,arg,b,a1,m1,c1,a2,m2,c2,name,a,nk,c,hok⟩:=x
  dsimp only at hy hR hk hlen hgr ⊢
  obtain⟨hk30,hk⟩:=hk
  refine callsIn_of_wp Tryz.func155 rfl hf ?_ hro
  simp only[Tryz.ntmps155,List.size_toArray,List.length_cons,List.length_nil,ζ,Nat.reduceSub,Array.replicate_succ,Array.replicate_zero,List.push_toArray,List.append_toArray,List.nil_append,List.cons_append]
  have hBx:∀W3,KpV n0 n1 (W.alloc (.cells #[.int .i64 op,.int .i64 arg,.bool b,.slice a1 m1 c1,.slice a2 m2 c2,.string name,.slice a nk c] 27)) W3→W3.cell? ⟨W.heap.size,6,none⟩=some (.slice a nk c)∧KpV n0 n1 W W3:=fun W3 k=>by
   have ha:KpV n0 n1 W (W.alloc (.cells #[.int .i64 op,.int .i64 arg,.bool b,.slice a1 m1 c1,.slice a2 m2 c2,.string name,.slice a nk c] 27)):=⟨(Below.refl n0 W).alloc (by omega) _,fun k cs T f _ hk=>by rw[Below.heap_alloc _ _ _ (Array.getElem?_eq_some_iff.1 hk).1];exact hk⟩
   exact⟨box_cell (k.2 _ _ _ _ (by omega) (World.alloc_heap_new W _)) 6,ha.trans k⟩
  gi_wp2_with ((try refine⟨hdd _,?_⟩);refine hR.mono ?_;clear hR;rintro e W3 (⟨rfl,hJ3,hk3⟩ |⟨rfl,hx3⟩))
  ·obtain⟨hc3,hk4⟩:=hBx W3 hk3
   clear hBx hk3
   gi_wp2
   gi_loopw [14] (fun p wr=>∃i:Nat,i≤nk∧p=.int .i64 i∧(∃ys:List XN,ys.map XN.key=(op,name) :: ((List.range i).flatMap fun i=>nodesX (kid i))∧J (pre ++ys) wr)∧KpV n0 n1 W wr) (fun p _=>nk - (RowKit.intOf p).toNat)
   case atStart=>exact⟨0,qBh _,rfl,⟨[⟨op,arg,b,a1,m1,c1,a2,m2,c2,name,a,nk,c,hok⟩],rfl,hJ3⟩,hk4⟩
   case round=>
    obtain⟨i,hi,rfl,⟨ys,hys,hJi⟩,hki⟩:=hrel
    by_cases h2:i < nk
    ·obtain⟨kb,ko,rfl,hkb,⟨bs,bT,bf,hb1,hb2⟩,hkid⟩:=hk i h2
     obtain⟨tt,hkk⟩:∃t,kid i=t:=⟨_,rfl⟩
     obtain _ |⟨⟨xop,xarg,xb,xa1,xm1,xc1,xa2,xm2,xc2,xname,xa,xn,xc,xok⟩,kk⟩:=tt
     ·rw[hkk] at hkid;exact hkid.elim
     have hx:=ih i
     rw[hkk] at hkid hb2 hx
     dsimp only[XT.nd,XN.cs,XN.v] at hb2 hx
     have hsi:=χ hW hki.1.size
     have hbw:=(hki.1.block kb hkb).trans hb1
     have hc:∀(j:Nat) u,([.int .i64 xop,.int .i64 xarg,.bool xb,.slice xa1 xm1 xc1,.slice xa2 xm2 xc2,.string xname,.slice xa xn xc]:List Value)[j]?=some u→wr.cell? ⟨kb,ko+i*7+j,none⟩=some u:=fun j u hu=>by
      rw[box_cell hbw];exact hb2 j u hu
     have c0:wr.cell? ⟨kb,ko+i*7,none⟩=some (.int .i64 xop):=hc 0 _ rfl
     have c1':wr.cell? ⟨kb,ko+i*7+1,none⟩=some (.int .i64 xarg):=hc 1 _ rfl
     have c2':wr.cell? ⟨kb,ko+i*7+2,none⟩=some (.bool xb):=hc 2 _ rfl
     have c3:wr.cell? ⟨kb,ko+i*7+3,none⟩=some (.slice xa1 xm1 xc1):=hc 3 _ rfl
     have c4:wr.cell? ⟨kb,ko+i*7+4,none⟩=some (.slice xa2 xm2 xc2):=hc 4 _ rfl
     have c5:wr.cell? ⟨kb,ko+i*7+5,none⟩=some (.string xname):=hc 5 _ rfl
     have c6:wr.cell? ⟨kb,ko+i*7+6,none⟩=some (.slice xa xn xc):=hc 6 _ rfl
     clear hc
     have hgr2:=World.grownBy_alloc wr (.cells #[.int .i64 xop,.int .i64 xarg,.bool xb,.slice xa1 xm1 xc1,.slice xa2 xm2 xc2,.string xname,.slice xa xn xc] 27) none
     have hk0:KpV n0 n1 wr (wr.alloc (.cells #[.int .i64 xop,.int .i64 xarg,.bool xb,.slice xa1 xm1 xc1,.slice xa2 xm2 xc2,.string xname,.slice xa xn xc] 27)):=⟨(Below.refl n0 wr).alloc (by omega) _,fun k cs T f _ hk=>by rw[Below.heap_alloc _ _ _ (Array.getElem?_eq_some_iff.1 hk).1];exact hk⟩
     have hyl:ys.length=1+((List.range i).flatMap fun i=>nodesX (kid i)).length:=by
      have:=congrArg List.length hys
      rw[List.length_map,List.length_cons] at this;omega
     have hfl:=fm_le (fun i=>nodesX (kid i)) (show i+1≤nk by omega)
     have hsu:(List.range (i+1)).flatMap (fun i=>nodesX (kid i))=(List.range i).flatMap (fun i=>nodesX (kid i)) ++nodesX (kid i):=by
      rw[List.range_succ,List.flatMap_append];simp
     rw[←hkk] at hkid hx
     have hx:=hx (n - 1) (hJ _ _ _ hJi hgr2) (by rw[hsu,qAp] at hfl;rw[qAp];omega) (χ hsi hgr2.size) (hkid.low (hki.trans hk0).1)
     have h2i:(i:Int) < (nk:Int):=by omega
     gi_wp2
     refine hx.mono ?_
     rintro e W4 (⟨rfl,⟨zs,hzs,hJ4⟩,hk4'⟩ |⟨rfl,hx4⟩)
     ·gi_wp2
      go_roundw
      case rel=>exact⟨i+1,by omega,by simp,⟨ys ++zs,by rw[List.map_append,hys,hzs,hsu];simp,by rw[←List.append_assoc];exact hJ4⟩,hki.trans (hk0.trans hk4')⟩
      case measure=>
       simp[RowKit.intOf];omega
     ·gi_wp2
      refine bodyPost_ret (results_tmp rfl _ _ _) rfl ?_
      exact .inr ⟨rfl,hx4⟩
    ·obtain rfl:i=nk:=by omega
     gi_wp2
     go_ret
     exact .inl ⟨rfl,⟨ys,by rw[hys,nodesX];rfl,hJi⟩,hki⟩
  ·gi_wp2
   go_ret
   exact .inr ⟨rfl,_,hx3⟩
theorem nodesE_in {F:Fence} {n:Nat} (hf:F.fn 90) (hro:F.round=none) {x:XN} {w:World}:
  CallsIn F n Tryz.prog 90 #[x.v] w fun e w'=>e=.returned (.func (.func 154) #[] #[.pointer (some ⟨w.heap.size,0,none⟩)])∧w'=w.alloc (.cells #[.int .i64 x.op,.int .i64 x.arg,.bool x.b,.slice x.a1 x.m1 x.c1,.slice x.a2 x.m2 x.c2,.string x.name,.slice x.a x.n x.c] 27):=by
 unfold XN.v
 refine callsIn_of_wp Tryz.func90 rfl hf ?_ hro
 simp only[Tryz.ntmps90,List.size_toArray,List.length_cons,List.length_nil,ζ,Nat.reduceSub,Array.replicate_succ,Array.replicate_zero,List.push_toArray,List.append_toArray,List.nil_append,List.cons_append]
 gi_wp2
 go_ret
 exact⟨rfl,rfl⟩
theorem nodesE_stops {F:Fence} (hd:F.depth=none) {n:Nat} (hf:F.fn 155) (hf2:F.fn 154) (hro:F.round=none) {Bt n0:Nat} {t:XT} {w:World} (hv:XTin n0 w t) (hn:n0≤w.heap.size)
  {f:Nat×Nat} (hB:w.heap[Bt]?=some (.cells #[.int .i64 t.nd.op,.int .i64 t.nd.arg,.bool t.nd.b,.slice t.nd.a1 t.nd.m1 t.nd.c1,.slice t.nd.a2 t.nd.m2 t.nd.c2,.string t.nd.name,.slice t.nd.a t.nd.n t.nd.c] 27 f)):
  SeqStopsK F n Tryz.prog 154 #[.pointer (some ⟨Bt,0,none⟩)] (fun x:XN=>#[x.v]) (KpV n0 w.heap.size) (fun ys=>ys.map XN.key=nodesX t) (fun _=>True) (nodesX t).length w:=by
 intro l J Jx W hW hJ hJx hY h0
 have hdd:∀k:Nat,(F.depth.isSome=true→1≤k):=fun k h=>by rw[hd] at h;cases h
 have hB':W.heap[Bt]?=_:=(hW.block Bt (Array.getElem?_eq_some_iff.1 hB).1).trans hB
 have hp:=each_e hd hf hro (l:=l) (n0:=n0) (n1:=w.heap.size) (J:=J) (Jx:=Jx) (fun s A B h g=>hJ s A B none h g (fun r e=>by cases e)) (fun m pre x W1 hj hl=>YieldAt.any hd m (hY pre x W1 hj hl)) hn t (n - 1) (pre:=[]) h0 (by simp) hW.size (hv.low (hW.mono hn))
 unfold XN.v at hp
 have c0:=box_cell hB' 0
 have c1:=box_cell hB' 1
 have c2:=box_cell hB' 2
 have c3:=box_cell hB' 3
 have c4:=box_cell hB' 4
 have c5:=box_cell hB' 5
 have c6:=box_cell hB' 6
 simp only[List.getElem?_toArray,List.getElem?_cons_zero,List.getElem?_cons_succ] at c0 c1 c2 c3 c4 c5 c6
 refine callsIn_of_wp Tryz.func154 rfl hf2 ?_ hro
 simp only[Tryz.ntmps154,List.size_toArray,List.length_cons,List.length_nil,ζ,Nat.reduceSub,Array.replicate_succ,Array.replicate_zero,List.push_toArray,List.append_toArray,List.nil_append,List.cons_append]
 gi_wp2_with ((try refine⟨hdd _,?_⟩);gi_at_call 155;refine hp.mono ?_;clear hp;rintro e W1 (⟨rfl,⟨ys,hys,hJ1⟩,_⟩ |⟨rfl,q,hx⟩))
 ·go_end0
  exact⟨⟨_,rfl⟩,.inl ⟨_,hys,hJ1⟩⟩
 ·go_end0
  exact⟨⟨_,rfl⟩,.inr ⟨q,trivial,hx⟩⟩
def nmX {H:Type} (xs:List XN):DataW H:=xs.foldl (fun D x=>bif x.op == 2 then D.put (.string x.name.data.toList) (.lit (.bool true)) else D) (.map [])
theorem nmX_snoc {H:Type} (pre:List XN) (x:XN):nmX (H:=H) (pre ++[x])=bif x.op == 2 then (nmX pre).put (.string x.name.data.toList) (.lit (.bool true)) else nmX pre:=by simp[nmX]
theorem put_key {H:Type} {es:List (Lit×DataW H)} (hs:∀p∈es,∃s,p.1=.string s) (t:List UInt8) (d:DataW H) (s:List UInt8):s∈(ChangeMaps.putKey (.string t) d es).map (fun p=>strOf p.1)↔s=t∨s∈es.map (fun p=>strOf p.1):=by
 unfold ChangeMaps.putKey
 simp only[List.mem_map,ChangeMaps.mem_insert_iff,List.mem_filter]
 constructor
 ·rintro⟨p,rfl |⟨hp,_⟩,rfl⟩
  ·exact .inl rfl
  ·exact .inr ⟨p,hp,rfl⟩
 ·rintro(rfl |⟨p,hp,rfl⟩)
  ·exact⟨_,.inl rfl,rfl⟩
  ·obtain⟨u,hu⟩:=hs p hp
   by_cases e:u=t
   ·subst e
    exact⟨_,.inl rfl,by rw[hu]⟩
   ·refine⟨p,.inr ⟨hp,?_⟩,rfl⟩
    unfold ChangeMaps.notKey
    rw[hu]
    simp[Lit.sameKey,e]
theorem nmX_fold {H:Type}:∀(xs:List XN) (es0:List (Lit×DataW H)),(∀p∈es0,∃s,p.1=.string s)→∃es:List (Lit×DataW H),xs.foldl (fun(D:DataW H) (x:XN)=>bif x.op == 2 then D.put (.string x.name.data.toList) (.lit (.bool true)) else D) (.map es0)=.map es∧es.length≤es0.length+xs.length∧(∀p∈es,∃s,p.1=.string s)∧∀s,s∈es.map (fun p=>strOf p.1)↔s∈es0.map (fun p=>strOf p.1)∨∃x∈xs,x.op=2∧x.name.data.toList=s
 |[],es0,h=>⟨es0,rfl,η _,h,fun s=>by simp⟩
 | x :: xs,es0,h=>by
  rw[List.foldl_cons]
  cases e:x.op == 2 with
  | false=>
   have e':x.op≠2:=by simpa using e
   obtain⟨es,h1,h2,h3,h4⟩:=nmX_fold xs es0 h
   refine⟨es,h1,by simp;omega,h3,fun s=>?_⟩
   rw[h4]
   constructor
   ·rintro(g |⟨y,hy,k⟩)
    ·exact .inl g
    ·exact .inr ⟨y,List.mem_cons_of_mem _ hy,k⟩
   ·rintro(g |⟨y,hy,k⟩)
    ·exact .inl g
    ·rcases List.mem_cons.1 hy with rfl |g
     ·exact absurd k.1 e'
     ·exact .inr ⟨y,g,k⟩
  | true=>
   have e':x.op=2:=by simpa using e
   rw[cond_true,DataW.put_eq]
   obtain⟨es,h1,h2,h3,h4⟩:=nmX_fold xs (ChangeMaps.putKey (.string x.name.data.toList) (.lit (.bool true)) es0) (fun p hp=>by
    unfold ChangeMaps.putKey at hp
    rcases ChangeMaps.mem_insert_iff.1 hp with rfl |g
    ·exact⟨_,rfl⟩
    ·exact h p (List.mem_filter.1 g).1)
   refine⟨es,h1,?_,h3,fun s=>?_⟩
   ·unfold ChangeMaps.putKey at h2
    rw[Go.length_insert] at h2
    have:=List.length_filter_le (ChangeMaps.notKey (.string x.name.data.toList)) es0
    simp;omega
   ·rw[h4,put_key h]
    constructor
    ·rintro((rfl |g) |⟨y,hy,k⟩)
     ·exact .inr ⟨x,qAt ..,e',rfl⟩
     ·exact .inl g
     ·exact .inr ⟨y,List.mem_cons_of_mem _ hy,k⟩
    ·rintro(g |⟨y,hy,k⟩)
     ·exact .inl (.inr g)
     ·rcases List.mem_cons.1 hy with rfl |g
      ·exact .inl (.inl k.2.symm)
      ·exact .inr ⟨y,g,k⟩
theorem nmX_keys {H:Type} (xs:List XN):∃es:List (Lit×DataW H),nmX xs=.map es∧es.length≤xs.length∧(∀p∈es,∃s,p.1=.string s)∧∀s,s∈es.map (fun p=>strOf p.1)↔∃x∈xs,x.op=2∧x.name.data.toList=s:=by
 obtain⟨es,h1,h2,h3,h4⟩:=nmX_fold (H:=H) xs [] (fun p hp=>by cases hp)
 exact⟨es,h1,by simpa using h2,h3,fun s=>by rw[h4];simp⟩
theorem varsX_in {t:XT} {w:World} (hk:XTin w.heap.size w t) (hN:(nodesX t).length≤300)
  (kV:∀m W,Below w.heap.size w W→CallsIn Fence.wide m Tryz.prog 52 #[t.nd.v] W fun e W'=>e=.returned (.bool true)∧Below W.heap.size W W'):
  CallsIn Fence.wide 9 Tryz.prog 53 #[t.nd.v] w fun e w'=>∃(v:Value) (ns:List (List UInt8)),e=.returned (.tuple #[v,.int .i64 0])∧(∀s,s∈ns↔∃nm:ByteArray,((2:Int),nm)∈nodesX t∧nm.data.toList=s)∧w'.ownsRow w.heap.size 9 1 v ns.length (ns.map encStr)∧Below w.heap.size w w':=by
 have hro:Fence.wide.round=none:=rfl
 have hmm:=@run_makeMap Tryz.prog
 obtain _ |⟨⟨op,arg,b,a1,m1,c1,a2,m2,c2,name,a,nk,c,hok⟩,kid⟩:=t
 ·exact hk.elim
 dsimp only[XT.nd,XN.v] at kV ⊢
 refine callsIn_of_wp_marks Tryz.func53 rfl trivial ?_ hro
 simp only[Tryz.ntmps53,List.size_toArray,List.length_cons,List.length_nil,ζ,Nat.reduceSub,Array.replicate_succ,Array.replicate_zero,List.push_toArray,List.append_toArray,List.nil_append,List.cons_append]
 have hk1:=hk.low ((Below.refl _ w).alloc (η _) (.cells #[.int .i64 op,.int .i64 arg,.bool b,.slice a1 m1 c1,.slice a2 m2 c2,.string name,.slice a nk c] 27))
 have g1:Fence.wide.fn 52:=trivial
 have g2:Fence.wide.fn 90:=trivial
 have hcel:∀w',Below (w.heap.size+1) (w.alloc (.cells #[.int .i64 op,.int .i64 arg,.bool b,.slice a1 m1 c1,.slice a2 m2 c2,.string name,.slice a nk c] 27)) w'→∀i,w'.cell? ⟨w.heap.size,i,none⟩=(#[.int .i64 op,.int .i64 arg,.bool b,.slice a1 m1 c1,.slice a2 m2 c2,.string name,.slice a nk c]:Array Value)[i]?:=fun w' hb i=>
  box_cell ((hb.block _ (by omega)).trans (World.alloc_heap_new w _)) i
 gi_wp2
 refine(kV _ _ ((Below.refl _ w).alloc (η _) _)).mono ?_
 rintro e w' ⟨rfl,hbV⟩
 simp only[World.size_alloc] at hbV
 have hs':w.heap.size+1≤w'.heap.size:=by have:=hbV.size;simpa using this
 have hbA:=(hbV.alloc hs' (.map #[] 0)).alloc (by simp;omega) (.cells #[.map (some w'.heap.size)] 138)
 have hc:=hcel _ hbA
 have c0:=hc 0
 have c1':=hc 1
 have c2':=hc 2
 have c3:=hc 3
 have c4:=hc 4
 have c5:=hc 5
 have c6:=hc 6
 clear hc
 simp only[List.getElem?_toArray,List.getElem?_cons_zero,List.getElem?_cons_succ] at c0 c1' c2' c3 c4 c5 c6
 gi_wp2_with (gi_at_call 90;refine(nodesE_in (n:=8) g2 hro (x:=⟨op,arg,b,a1,m1,c1,a2,m2,c2,name,a,nk,c,hok⟩) (w:=(w'.alloc (.map #[] 0)).alloc (.cells #[.map (some w'.heap.size)] 138))).mono ?_;rintro e w2 ⟨rfl,rfl⟩)
 have hnb:=hk1.low (hbA.mono (by omega))
 obtain⟨W0,hW0⟩:∃W0,((w'.alloc (.map #[] 0)).alloc (.cells #[.map (some w'.heap.size)] 138)).alloc (.cells #[.int .i64 op,.int .i64 arg,.bool b,.slice a1 m1 c1,.slice a2 m2 c2,.string name,.slice a nk c] 27)=W0:=⟨_,rfl⟩
 have hsz:W0.heap.size=w'.heap.size+3:=by rw[←hW0];simp
 have hkW:XTin w.heap.size W0 (.mk ⟨op,arg,b,a1,m1,c1,a2,m2,c2,name,a,nk,c,hok⟩ kid):=by rw[←hW0];exact hnb.low ((Below.refl _ _).alloc (by simp;omega) _)
 have hbx:W0.heap[w'.heap.size+1+1]?=some (.cells #[.int .i64 op,.int .i64 arg,.bool b,.slice a1 m1 c1,.slice a2 m2 c2,.string name,.slice a nk c] 27 (0,0)):=by
  have h:=World.alloc_heap_new ((w'.alloc (.map #[] 0)).alloc (.cells #[.map (some w'.heap.size)] 138)) (.cells #[.int .i64 op,.int .i64 arg,.bool b,.slice a1 m1 c1,.slice a2 m2 c2,.string name,.slice a nk c] 27)
  rw[hW0] at h
  simpa using h
 have bM:Boxed W0 (w'.heap.size+1) 138 (.map (some w'.heap.size)):=by
  rw[←hW0]
  exact(by simpa using Boxed.new (w'.alloc (.map #[] 0)) 138 (.map (some w'.heap.size)):Boxed _ (w'.heap.size+1) _ _).alloc _
 have hm0:W0.ownsMap Tryz.prog 9 (plainElem (H:=Unit) Tryz.prog 4) w'.heap.size 0 (.map []):=by
  rw[←hW0]
  exact((World.ownsMap_made w' Tryz.prog 9 (plainElem (H:=Unit) Tryz.prog 4)).alloc _).alloc _
 have hB0:Below w.heap.size w W0:=by
  rw[←hW0]
  exact(((Below.refl _ w).alloc (η _) _).trans (hbA.mono (by omega))).alloc (by simp;omega) _
 rw[hW0]
 clear hW0 c0 c1' c2' c3 c4 c5 c6 hbA hcel hnb hbV
 refine wpIn_rangeFunc_ownH hro (by decide) (gf:=154) (lb:=#[.pointer (some ⟨w'.heap.size+1+1,0,none⟩)]) rfl trivial (enters_of Tryz.func154 (by kernel_rfl) rfl)
  (nodesE_stops (n0:=w.heap.size) (t:=(.mk ⟨op,arg,b,a1,m1,c1,a2,m2,c2,name,a,nk,c,hok⟩ kid)) rfl trivial trivial hro hkW hB0.size hbx) KpV.trans
  (fun W l o o' hl h h1 h2=>⟨belowK_b hB0.size W l o o' hl h h1 h2,fun k cs T f _ ha=>by
   have hne:k≠l:=fun e=>by rw[e,h] at ha;cases ha;cases h1
   exact((grownBy_putObj' W l o').block k (Array.getElem?_eq_some_iff.1 ha).1 (fun e=>hne (Option.some.inj e))).trans ha⟩)
  (Below.refl _ _) (fun _=>rfl)
  (fun pre W=>(Boxed W (w'.heap.size+1) 138 (.map (some w'.heap.size))∧∃nn,nn≤pre.length∧W.ownsMap Tryz.prog 9 (plainElem (H:=Unit) Tryz.prog 4) w'.heap.size nn (nmX pre))∧Below w.heap.size w W∧W0.heap.size≤W.heap.size)
  (fun _ _ _=>False)
  (OwnFrom.and (OwnFrom.and (Own.from (boxed_own _ _ _) _) (fun s A B row ⟨nn,h1,hs⟩ hg hr=>⟨nn,h1,hs.kept hg (fun e=>by have:=(hr _ e.symm).1;omega)⟩)) (OwnFrom.and (ownFrom_below (η _) hB0.size) (fun s A B row hs hg hr=>χ hs hg.size)))
  (fun _ _ _ _ _ hs _ _=>hs)
  ⟨⟨bM,0,η _,hm0⟩,hB0,η _⟩
  (fun x a' W=>∃Bx,W0.heap.size≤Bx∧W.heap[Bx]?=some (.cells #[.int .i64 x.op,.int .i64 x.arg,.bool x.b,.slice x.a1 x.m1 x.c1,.slice x.a2 x.m2 x.c2,.string x.name,.slice x.a x.n x.c] 27 (0,0))∧a'={tmps:=#[.agg #[.int .i64 op,.int .i64 arg,.bool b,.slice a1 m1 c1,.slice a2 m2 c2,.string name,.slice a nk c],.pointer (some ⟨w.heap.size,0,none⟩),.slice none 0 0,.int .i64 0,.pointer (some ⟨w'.heap.size+1,0,none⟩),.pointer (some ⟨Bx,0,none⟩),.agg #[.int .i64 op,.int .i64 arg,.bool b,.slice a1 m1 c1,.slice a2 m2 c2,.string name,.slice a nk c],.bool true,.bool false,.map (some w'.heap.size),.agg #[.int .i64 op,.int .i64 arg,.bool b,.slice a1 m1 c1,.slice a2 m2 c2,.string name,.slice a nk c],.func (.func 154) #[] #[.pointer (some ⟨w'.heap.size+1+1,0,none⟩)],XN.v x,undef,undef,undef,undef,undef,undef,undef,undef,undef],defers:=[]})
  (fun x a' _ X Y row hs hg hr=>by
   obtain⟨Bx,h1,h2,h3⟩:=hs
   refine⟨Bx,h1,(hg.block Bx (Array.getElem?_eq_some_iff.1 h2).1 (fun e=>?_)).trans h2,h3⟩
   obtain⟨_,o,ho,hc⟩:=hr _ e.symm
   rw[h2] at ho;cases ho;cases hc)
  ?assign ?body ?done ?stop
 case assign=>
  rintro l pre x W K ⟨⟨bM1,nn,hnn,hm1⟩,hB1,hS1⟩ hK
  have hW:w.heap.size≤W.heap.size:=hB1.size
  have hN:∀o,KpV w.heap.size W0.heap.size W (W.alloc o):=fun o=>⟨(Below.refl _ W).alloc hW o,fun k cs T f _ ha=>by rw[Below.heap_alloc _ _ _ (Array.getElem?_eq_some_iff.1 ha).1];exact ha⟩
  obtain⟨xop,xarg,xb,xa1,xm1,xc1,xa2,xm2,xc2,xname,xa,xn,xc,xok⟩:=x
  dsimp only[XN.v] at hK ⊢
  gi_wp2
  exact hK _ _ ((KeepsOthers.alloc _ _).from _) (hN _) ⟨⟨bM1.alloc _,nn,hnn,hm1.alloc _⟩,hB1.alloc hW _,by simp;omega⟩ ⟨W.heap.size,hS1,World.alloc_heap_new W _,rfl⟩
 case body=>
  rintro l pre x a' W hl ⟨r,hr⟩ ⟨⟨bM1,nn,hnn,hm1⟩,hB1,hS1⟩ ⟨Bx,hBx,hbC,rfl⟩ hlt
  obtain⟨xop,xarg,xb,xa1,xm1,xc1,xa2,xm2,xc2,xname,xa,xn,xc,xok⟩:=x
  dsimp only[XN.v] at hbC ⊢
  have hW:w.heap.size≤W.heap.size:=hB1.size
  have cM:=bM1.cell
  have c0:=box_cell hbC 0
  have c5:=box_cell hbC 5
  simp only[List.getElem?_toArray,List.getElem?_cons_zero,List.getElem?_cons_succ] at c0 c5
  have hpl:pre.length < 300:=Nat.lt_of_lt_of_le hlt hN
  by_cases hx:xop=2
  ·subst hx
   have hkey:keyOf Tryz.prog 9 (.string xname)=some (.string xname.data.toList):=WideMaps.keyOf_string_mk (P:=Tryz.prog) Tryz.underlying9 (χ (xok rfl) (by decide))
   gi_wp2_with (gi_at_mapUpdate;refine wpListIn_mapUpdate_own _ rfl _ _ _ 138 rfl 9 4 (Maps.string_keyed Tryz.underlying9) Tryz.underlying138 _ w'.heap.size nn _ rfl hm1 (by unfold maxLen;omega) _ _ _ rfl rfl hkey _ [] (plainElem_bool Tryz.underlying4 true) ?_;intro w1 hown1 hgrow1)
   have hne:∀k,W0.heap.size≤k→some k≠some w'.heap.size:=fun k hk e=>by cases e;omega
   exact⟨KeepsFrom.of_grownBy hgrow1 (fun j e=>by cases e;omega),⟨(Below.refl _ W).grown hgrow1 hW (fun k e=>by cases e;omega),fun k cs T f hk ha=>(hgrow1.block k (Array.getElem?_eq_some_iff.1 ha).1 (hne k hk)).trans ha⟩,
    ⟨bM1.kept hgrow1 (fun e=>by have:=Option.some.inj e;omega),nn+1,by simp;omega,by rw[nmX_snoc];exact hown1⟩,hB1.grown hgrow1 hW (fun k e=>by cases e;omega),χ hS1 hgrow1.size⟩
  ·have hx':(xop == 2)=false:=by simpa using hx
   gi_wp2
   exact⟨KeepsFrom.refl _ _,⟨Below.refl _ _,fun _ _ _ _ _ h=>h⟩,⟨bM1,nn,by simp;omega,by rw[nmX_snoc];dsimp only;rw[hx'];exact hm1⟩,hB1,hS1⟩
 case done=>
  rintro D ys W hD hys ⟨⟨bM1,nn,hnn,hm1⟩,hB1,hS1⟩ hK
  have cM:=bM1.cell
  have g3:Fence.wide.fn 92:=trivial
  have g4:Fence.wide.fn 91:=trivial
  obtain⟨es,he1,he2,he3,he4⟩:=nmX_keys (H:=Unit) ys
  rw[he1] at hm1
  have hyl:ys.length≤300:=by have:=congrArg List.length hys;rw[List.length_map] at this;omega
  have hes:Maps.size (H:=Unit) (.map es)≤300:=χ (show es.length≤_ from he2) hyl
  gi_wp2_with (first
   |(gi_at_call 92;refine(callsIn_wide.2 (callsIn_wide.1 (keysIn _ _))).mono ?_;rintro e w3 ⟨rfl,rfl⟩)
   |(gi_at_call 91;refine(callsIn_wide.2 (callsIn_wide.1 (sortedIn w'.heap.size nn _ _ W hm1 (χ hes (by decide)) (by omega)))).mono ?_;rintro e w3 ⟨v,ss,rfl,hS,hrow,hnil,hb3⟩))
  have hD3:D < W.heap.size:=(Array.getElem?_eq_some_iff.1 hK).1
  have hK3:w3.heap[D]?=some (.deferred (some [])):=(hb3.block D (by simp;omega)).trans ((Below.heap_alloc W _ D hD3).trans hK)
  have hB3:Below w.heap.size w w3:=hB1.trans (((Below.refl _ W).alloc hB1.size _).trans (hb3.mono (by have:=hB1.size;simp;omega)))
  refine⟨by simp,.inl ⟨_,_,rfl,run_takeDeferred hK3,?_⟩⟩
  refine⟨_,results_tmp2 rfl _ _ _,v,ss.mergeSort (fun x y=>decide (x≤y)),rfl,fun s=>?_,?_,hB3.trans (belowK_b (w:=w) (η _) w3 D _ _ (by have:=hB0.size;omega) hK3 rfl rfl)⟩
  ·rw[List.mem_mergeSort,hS.mem_iff]
   show s∈es.map (fun p=>strOf p.1)↔_
   rw[he4]
   constructor
   ·rintro⟨x,hx,h1,h2⟩
    exact⟨x.name,by rw[←hys];exact List.mem_map.2 ⟨x,hx,by unfold XN.key;rw[h1]⟩,h2⟩
   ·rintro⟨nm,hx,h2⟩
    rw[←hys] at hx
    obtain⟨x,hx,hk⟩:=List.mem_map.1 hx
    unfold XN.key at hk
    simp only[Prod.mk.injEq] at hk
    exact⟨x,hx,hk.1,by rw[hk.2];exact h2⟩
  ·rw[List.length_mergeSort]
   have hr:=ownsRow_putObj hrow (.deferred none) hK3 rfl
   exact ownsRow_base_a hr (by have:=hB1.size;simp;omega)
 case stop=>
  rintro D c pre W _ _ h _
  exact h.elim
end Go.Q
