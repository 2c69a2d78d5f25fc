/-
  A function that collects elements of several cells in a row of its own, in memory that is not shared, while it goes over something, and what stands on it. Conditions: each theorem's own.
-/
import Derived.Test.YtgmcchhklbeckaaGreatDoorKf2e869PkN
import Derived.Test.YtgmcchhklbeckaaGreatDoorKe6f7caPkA
import Derived.Maps.OwnIn
import Derived.Test.YtgmcchhklbeckaaGreatDoorK3550acPkG
import Derived.Test.YtgmcchhklbeckaaGreatDoorK7c64e3PkL
import Derived.Test.YtgmcchhklbeckaaGreatDoorK8d17b0PkM
import Derived.Test.YtgmcchhklbeckaaGreatDoorKa16a35PkD
set_option linter.unusedVariables false
set_option linter.unusedSimpArgs false
open Nat renaming reduceBEq→ξ,reduceAdd→ζ,le_trans→χ,le_refl→η,mul_comm→ρ,one_mul→qBm
open Bool renaming and_eq_true→φ,false_eq_true→qAw
open List renaming take_of_length_le→qAr,mem_cons_self→qAt,mem_singleton→qBc,all_eq_true→qBd
namespace Go.Q
open Go.RowKit
theorem Has.join {w:World} {a b:PH} (ha:Has w a) (hb:Has w b):∃c,Has w c∧Sub a c∧Sub b c∧∀k,c k≠none→a k≠none∨b k≠none:=by
 refine⟨fun k=>match a k with |some x=>some x |none=>b k,fun k cs h=>?_,fun k cs h=>?_,fun k cs h=>?_,fun k h=>?_⟩
 ·dsimp only at h
  cases e:a k with
  |some x=>rw[e] at h;cases h;exact ha _ _ e
  |none=>rw[e] at h;exact hb _ _ h
 ·show(match a k with |some x=>some x |none=>b k)=_;rw[h]
 ·show(match a k with |some x=>some x |none=>b k)=_
  cases e:a k with
  |none=>exact h
  | some x=>
   obtain⟨_,_,h1⟩:=ha _ _ e
   obtain⟨_,_,h2⟩:=hb _ _ h
   rw[h1] at h2
   cases h2;rfl
 ·cases e:a k with
  |some x=>exact .inl (by simp)
  |none=>exact .inr (fun e2=>h (by show(match a k with |some x=>some x |none=>b k)=_;rw[e];exact e2))
theorem Has.kept {A B:World} {h:PH} (hh:Has A h) {row:Option Nat} (hg:A.grownBy B row) (hr:∀r,row=some r→h r=none):Has B h:=fun b cs hx=>by
 obtain⟨T,f,hw⟩:=hh b cs hx
 exact⟨T,f,(hg.block b (Array.getElem?_eq_some_iff.1 hw).1 (fun e=>by rw[hr b e.symm] at hx;cases hx)).trans hw⟩
theorem priv_of_new {w:World} {n:Nat} {h hm:PH} (hw:Has w h) (hn:New n h hm):∀k,w.heap.size≤k→k < n→hm k=none:=fun k k1 k2=>by
 cases ex:hm k with
 |none=>rfl
 | some cs=>
  rcases hn k (by rw[ex];simp) with g |g
  ·cases e9:h k with
   |none=>exact absurd e9 g
   |some cs'=>have:=hw.lt e9;omega
  ·omega
structure Col {α:Type} (w:World) (h0:PH) (B:Nat) (T E:TypeId) (sz:Nat) (Q:PH→List Value→α→Prop) (R:List (Nat×Array Value×TypeId)) (l:List α) (hp:PH) (v:Value) (W:World):Prop where
 sub:Sub h0 hp
 has:Has W hp
 new:New w.heap.size h0 hp
 box:Boxed W B T v
 row:∃xs,W.ownsRow w.heap.size E sz v l.length xs∧RowOf sz (Q hp) xs l
 off:∀g,v.ownBlock=some g→hp g=none
 boff:hp B=none
 below:Below w.heap.size w W
 rest:∀x∈R,W.heap[x.1]?=some (.cells x.2.1 x.2.2 (0,0))∧hp x.1=none∧x.1≠B∧v.ownBlock≠some x.1∧w.heap.size≤x.1
section
variable {α:Type} {w:World} {h0:PH} {B:Nat} {T E:TypeId} {sz:Nat} {Q:PH→List Value→α→Prop} {R:List (Nat×Array Value×TypeId)} {l:List α} {hp:PH} {v:Value} {W:World}
theorem Col.kept (c:Col w h0 B T E sz Q R l hp v W) {W':World} {row:Option Nat} (hg:W.grownBy W' row) (hr:∀r,row=some r→w.heap.size≤r∧∃o:Obj,W.heap[r]?=some o∧o.isCells=false):Col w h0 B T E sz Q R l hp v W':=by
 obtain⟨xs,h1,h2⟩:=c.row
 refine⟨c.sub,c.has.kept hg fun r e=>?_,c.new,c.box.kept hg fun e=>?_,⟨xs,h1.kept hg ?_,h2⟩,c.off,c.boff,c.below.grown hg c.below.size fun k e=>(hr k e).1,fun x hx=>?_⟩
 ·obtain⟨_,o,ho,hc⟩:=hr r e
  cases hx:hp r with
  |none=>rfl
  | some cs=>
   obtain⟨_,_,hw⟩:=c.has _ _ hx
   rw[hw] at ho;cases ho;cases hc
 ·obtain⟨_,o,ho,hc⟩:=hr B e.symm
  rw[show W.heap[B]?=_ from c.box] at ho;cases ho;cases hc
 ·rcases h1.2 with⟨rfl,_⟩ |⟨g,cap,cur,rfl,_,hgb,_⟩
  ·exact .inl rfl
  ·refine .inr fun e'=>?_
   obtain⟨_,o,ho,hc⟩:=hr g (by simpa[Value.ownBlock] using e'.symm)
   rw[hgb] at ho;cases ho;cases hc
 ·obtain⟨k1,k2⟩:=c.rest x hx
  refine⟨(hg.block x.1 (Array.getElem?_eq_some_iff.1 k1).1 fun e=>?_).trans k1,k2⟩
  obtain⟨_,o,ho,hc⟩:=hr x.1 e.symm
  rw[k1] at ho;cases ho;cases hc
theorem col_own {β:Type} {D:Nat} (hD:w.heap.size≤D) (f:β→List α) (G:β→Prop):OwnFrom D (fun(s:β) W=>(∃hp v,Col w h0 B T E sz Q R (f s) hp v W)∧G s):=
 fun _ _ _ _ ⟨⟨hp,v,c⟩,g⟩ hg hr=>⟨⟨hp,v,c.kept hg fun r e=>⟨χ hD (hr r e).1,(hr r e).2⟩⟩,g⟩
theorem Col.alloc (c:Col w h0 B T E sz Q R l hp v W) (o:Obj):Col w h0 B T E sz Q R l hp v (W.alloc o):=c.kept (World.grownBy_alloc W o none) (fun r e=>by cases e)
theorem Col.up (c:Col w h0 B T E sz Q R l hp v W) {h':PH} {W':World} (hs:Sub hp h') (hh:Has W' h') (hb:Below W.heap.size W W') (hn:New W.heap.size hp h') (hQ:∀cs s,Q hp cs s→Q h' cs s):Col w h0 B T E sz Q R l h' v W':=by
 obtain⟨xs,h1,h2⟩:=c.row
 have off:∀k,k < W.heap.size→hp k=none→h' k=none:=fun k hk e=>by
  cases e2:h' k with
  |none=>rfl
  | some cs=>
   rcases hn k (by rw[e2];simp) with g |g
   ·exact absurd e g
   ·omega
 refine⟨c.sub.trans hs,hh,fun k hk=>?_,?_,⟨xs,?_,h2.mono hQ⟩,fun g e=>off g ?_ (c.off g e),off B c.box.lt c.boff,c.below.trans (hb.mono c.below.size),fun x hx=>?_⟩
 ·rcases hn k hk with g |g
  ·exact c.new k g
  ·exact .inr (χ c.below.size g)
 ·exact(hb.block B c.box.lt).trans c.box
 ·refine⟨h1.1,?_⟩
  rcases h1.2 with hn |⟨g,cap,cur,rfl,hb0,hgg,rest⟩
  ·exact .inl hn
  ·exact .inr ⟨g,cap,cur,rfl,hb0,(hb.block g (Array.getElem?_eq_some_iff.1 hgg).1).trans hgg,rest⟩
 ·rcases h1.2 with⟨rfl,_⟩ |⟨g',cap,cur,rfl,_,hgb,_⟩
  ·simp[Value.ownBlock] at e
  ·obtain rfl:g'=g:=by simpa[Value.ownBlock] using e
   exact(Array.getElem?_eq_some_iff.1 hgb).1
 ·obtain⟨k1,k2,k3⟩:=c.rest x hx
  have hlt:=(Array.getElem?_eq_some_iff.1 k1).1
  exact⟨(hb.block x.1 hlt).trans k1,off x.1 hlt k2,k3⟩
theorem Col.start {T:TypeId} (hw:Has w h0) {W:World} (hb:Below w.heap.size w W) (hB:w.heap.size≤B) (hx:Boxed W B T (.slice none 0 0)) (hR:∀x∈R,W.heap[x.1]?=some (.cells x.2.1 x.2.2 (0,0))∧w.heap.size≤x.1∧x.1≠B):Col w h0 B T E sz Q R ([]:List α) h0 (.slice none 0 0) W:=
 ⟨Sub.refl _,hw.below hb,fun _ h=>.inl h,hx,⟨[],World.ownsRow_nil _ _ _ _,RowOf.nil⟩,fun g e=>by simp[Value.ownBlock] at e,by
  cases e:h0 B with
  |none=>rfl
  |some cs=>have:=hw.lt e;omega,hb,fun x hx=>by
  obtain⟨k1,k2,k3⟩:=hR x hx
  refine⟨k1,?_,k3,by simp[Value.ownBlock],k2⟩
  cases e:h0 x.1 with
  |none=>rfl
  |some cs=>have:=hw.lt e;omega⟩
theorem Col.app (c:Col w h0 B T E sz Q R l hp v W) (hTE:T≠E) (hB:w.heap.size≤B) {tmp:Obj} {w1:World} {v':Value} {xs cs:List Value} {s:α} (hx:W.ownsRow w.heap.size E sz v l.length xs) (hR:RowOf sz (Q hp) xs l)
  (hcs:cs.length=sz) (q:Q hp cs s) (hown:w1.ownsRow w.heap.size E sz v' (l.length+1) (xs ++cs)) (hg:(W.alloc tmp).grownBy w1 v.ownBlock) (hat:v'.ownBlock=v.ownBlock∨v'.ownBlock=some (W.alloc tmp).heap.size):
  Boxed w1 B T v∧Col w h0 B T E sz Q R (l ++[s]) hp v' (w1.setCell ⟨B,0,none⟩ v')∧KeepsOthers W (w1.setCell ⟨B,0,none⟩ v'):=by
 obtain⟨k1,k2,k3,k4,k5⟩:=c.box.appended (tmp:=tmp) hTE hx c.below.size hB hown hg
 have hh1:Has w1 hp:=(c.has.kept (World.grownBy_alloc W tmp none) (fun r e=>by cases e)).kept hg fun r e=>c.off r e
 have hlt:∀g,v'.ownBlock=some g→hp g=none:=fun g e=>by
  rcases hat with ha |ha
  ·exact c.off g (by rw[←ha];exact e)
  ·cases ex:hp g with
   |none=>rfl
   | some cs'=>
    have h1:=c.has.lt ex
    rw[ha] at e
    have e:=Option.some.inj e
    simp at e
    omega
 refine⟨k1,⟨c.sub,hh1.kept (grownBy_setCell' w1 B v') (fun r e=>by cases e;exact c.boff),c.new,k2,⟨xs ++cs,by simpa using k3,?_⟩,hlt,c.boff,c.below.trans k5,fun x hx=>?_⟩,k4⟩
 ·have:=hR.app hcs q []
  rwa[List.append_nil,qAr (by rw[hx.1];exact η _)] at this
 ·obtain⟨r1,r2,r3,r4,r5⟩:=c.rest x hx
  have hl1:=(Array.getElem?_eq_some_iff.1 r1).1
  refine⟨?_,r2,r3,fun e=>?_,r5⟩
  ·rw[Below.heap_setCell _ _ _ _ r3,hg.block x.1 (by simp;omega) (fun e=>r4 e.symm),Below.heap_alloc _ _ _ hl1];exact r1
  ·rcases hat with ha |ha
   ·exact r4 (by rw[←ha];exact e)
   ·rw[ha] at e
    have e:=Option.some.inj e
    simp at e
    omega
theorem bx_cell {W:World} {b:Nat} {cs:Array Value} {t:TypeId} {f:Nat×Nat} (h:W.heap[b]?=some (.cells cs t f)) (i:Nat):W.cell? ⟨b,i,none⟩=cs[i]?:=by
 simp[World.cell?,h]
theorem new_cells {W:World} {n:Nat} (hn:n=W.heap.size) (cs:Array Value) (t:TypeId):∀j u,cs.toList[j]?=some u→(W.alloc (.cells cs t)).cell? ((⟨n,0,none⟩:Addr).add j)=some u:=fun j u hu=>by
 subst hn
 have e:((⟨W.heap.size,0,none⟩:Addr).add j)=⟨W.heap.size,j,none⟩:=by
  unfold Addr.add
  split<;>simp_all
 rw[e,bx_cell (World.alloc_heap_new W _)]
 simpa using hu
theorem Col.push (c:Col w h0 B T E sz Q R l hp v W) (cs:Array Value) (T':TypeId):Col w h0 B T E sz Q ((W.heap.size,cs,T') :: R) l hp v (W.alloc (.cells cs T')):=by
 have d:=c.alloc (.cells cs T')
 refine⟨d.sub,d.has,d.new,d.box,d.row,d.off,d.boff,d.below,fun x hx=>?_⟩
 rcases List.mem_cons.1 hx with rfl |hx
 ·refine⟨World.alloc_heap_new W _,?_,fun e=>?_,fun e=>?_,c.below.size⟩
  ·cases e:hp W.heap.size with
   |none=>rfl
   |some cs'=>have:=c.has.lt e;omega
  ·have:=c.box.lt
   have e:W.heap.size=B:=e
   omega
  ·obtain⟨xs,h1,_⟩:=c.row
   have:=(h1.lt _ e).2
   have:W.heap.size < W.heap.size:=this
   omega
 ·exact d.rest x hx
theorem Col.less (c:Col w h0 B T E sz Q R l hp v W) {R':List (Nat×Array Value×TypeId)} (h:∀x∈R',x∈R):Col w h0 B T E sz Q R' l hp v W:=
 ⟨c.sub,c.has,c.new,c.box,c.row,c.off,c.boff,c.below,fun x hx=>c.rest x (h x hx)⟩
theorem Col.meet (c:Col w h0 B T E sz Q R l hp v W) {W1:World} (hg:W.grownBy W1 none) {hn:PH} (h2:Sub h0 hn) (h3:Has W1 hn) (h4:New W.heap.size h0 hn) (hQ:∀a b,Sub a b→∀cs s,Q a cs s→Q b cs s):
  ∃hj,Col w h0 B T E sz Q R l hj v W1∧Sub hn hj∧Sub hp hj:=by
 obtain⟨hj,j1,j2,j3,j4⟩:=Has.join (c.has.kept hg (fun r e=>by cases e)) h3
 refine⟨hj,c.up j2 j1 ⟨hg.os,hg.tape,hg.output,hg.size,fun k hk=>hg.block k hk (by simp)⟩ (fun k hk=>?_) (hQ _ _ j2),j3,j2⟩
 rcases j4 k hk with g |g
 ·exact .inl g
 ·rcases h4 k g with g |g
  ·refine .inl fun e=>?_
   cases e2:h0 k with
   |none=>exact g e2
   |some cs=>rw[c.sub _ _ e2] at e;cases e
  ·exact .inr g
theorem post_ret {w':World} {h:PH} {R':Value→PH→Prop} {e:Ending} (p:Post w h R' NP e w'):∃u h',e=.returned u∧Below w.heap.size w w'∧Has w' h'∧Sub h h'∧New w.heap.size h h'∧R' u h':=by
 cases e with
 |returned u=>obtain⟨h',q⟩:=p;exact⟨u,h',rfl,q⟩
 |panicked ch=>obtain⟨_,_,_,_,_,p⟩:=p;exact(p:False).elim
 |outgrown=>exact(p:False).elim
theorem Col.set (c:Col w h0 B T E sz Q R l hp v W) {r:Nat} {cs:Array Value} {T':TypeId} (hr:(r,cs,T')∈R) (v':Value) {R':List (Nat×Array Value×TypeId)} (hR:∀x∈R',x∈R∧x.1≠r):Col w h0 B T E sz Q R' l hp v (W.setCell ⟨r,0,none⟩ v'):=by
 obtain⟨r1,r2,r3,r4,hlo⟩:=c.rest _ hr
 obtain⟨xs,h1,h2⟩:=c.row
 refine⟨c.sub,c.has.kept (grownBy_setCell' W r v') (fun r e=>by cases e;exact r2),c.new,c.box.kept (grownBy_setCell' W r v') (fun e=>r3 (Option.some.inj e).symm),⟨xs,h1.kept (grownBy_setCell' W r v') (.inr r4),h2⟩,c.off,c.boff,c.below.setCell (p:=⟨r,0,none⟩) hlo v',fun x hx=>?_⟩
 obtain⟨k1,k2⟩:=hR x hx
 obtain⟨q1,q2⟩:=c.rest x k1
 exact⟨by rw[Below.heap_setCell _ _ _ _ k2];exact q1,q2⟩
theorem Col.touch (c:Col w h0 B T E sz Q R l hp v W) {r:Nat} {cs:Array Value} {T':TypeId} (hr:(r,cs,T')∈R) {W':World} (hg:W.grownBy W' (some r)) {R':List (Nat×Array Value×TypeId)} (hR:∀x∈R',x∈R∧x.1≠r):Col w h0 B T E sz Q R' l hp v W':=by
 obtain⟨r1,r2,r3,r4,hlo⟩:=c.rest _ hr
 obtain⟨xs,h1,h2⟩:=c.row
 refine⟨c.sub,c.has.kept hg (fun r e=>by cases e;exact r2),c.new,c.box.kept hg (fun e=>r3 (Option.some.inj e).symm),⟨xs,h1.kept hg (.inr r4),h2⟩,c.off,c.boff,c.below.grown hg c.below.size (fun k e=>by cases e;exact hlo),fun x hx=>?_⟩
 obtain⟨k1,k2⟩:=hR x hx
 obtain⟨q1,q2⟩:=c.rest x k1
 exact⟨(hg.block x.1 (Array.getElem?_eq_some_iff.1 q1).1 (fun e=>k2 (Option.some.inj e))).trans q1,q2⟩
def Quit (w:World) (h:PH) (R:List (Nat×Array Value×TypeId)) (W:World):Prop:=∃hp,Sub h hp∧Has W hp∧New w.heap.size h hp∧Below w.heap.size w W∧∀x∈R,W.heap[x.1]?=some (.cells x.2.1 x.2.2 (0,0))
theorem quit_own {β:Type} {D:Nat} (hD:w.heap.size≤D) (G:β→Prop) (f:β→List (Nat×Array Value×TypeId)):OwnFrom D (fun(s:β) W=>G s∧Quit w h0 (f s) W):=fun s A C row ⟨g,hp,k1,k2,k3,k4,k5⟩ hg hr=>by
 have kn:∀r,row=some r→∀cs T f,A.heap[r]?≠some (.cells cs T f):=fun r e cs T f hc=>by
  obtain⟨_,o,ho,hc'⟩:=hr r e
  rw[hc] at ho;cases ho;cases hc'
 refine⟨g,hp,k1,k2.kept hg fun r e=>?_,k3,k4.grown hg k4.size fun k e=>χ hD (hr k e).1,fun x hx=>?_⟩
 ·cases hx:hp r with
  |none=>rfl
  | some cs=>
   obtain⟨_,_,hw⟩:=k2 _ _ hx
   exact absurd hw (kn r e _ _ _)
 ·exact(hg.block x.1 (Array.getElem?_eq_some_iff.1 (k5 x hx)).1 fun e=>kn x.1 e.symm _ _ _ (k5 x hx)).trans (k5 x hx)
theorem Col.quit (c:Col w h0 B T E sz Q R l hp v W) {R':List (Nat×Array Value×TypeId)} (hR:∀x∈R',W.heap[x.1]?=some (.cells x.2.1 x.2.2 (0,0))):Quit w h0 R' W:=⟨hp,c.sub,c.has,c.new,c.below,hR⟩
theorem Col.two {r:Nat} {x y:Value} {T1 T2:TypeId} {R0:List (Nat×Array Value×TypeId)} (c:Col w h0 B T E sz Q ((r,#[x],T1) :: (r+1,#[y],T2) :: R0) l hp v W) (a b:Value):
  Col w h0 B T E sz Q [] l hp v ((W.setCell ⟨r,0,none⟩ a).setCell ⟨r+1,0,none⟩ b)∧Boxed ((W.setCell ⟨r,0,none⟩ a).setCell ⟨r+1,0,none⟩ b) r T1 a∧Boxed ((W.setCell ⟨r,0,none⟩ a).setCell ⟨r+1,0,none⟩ b) (r+1) T2 b:=by
 have b1:Boxed W r T1 x:=(c.rest _ (qAt ..)).1
 have b2:Boxed W (r+1) T2 y:=(c.rest _ (List.mem_cons_of_mem _ (qAt ..))).1
 refine⟨(c.set (qAt ..) a (R':=[(r+1,#[y],T2)]) fun z hz=>?_).set (qAt ..) b (R':=[]) (fun z hz=>by cases hz),(b1.set a).kept (grownBy_setCell' _ (r+1) b) (by simp),(b2.kept (grownBy_setCell' _ r a) (by simp)).set b⟩
 obtain rfl:=qBc.1 hz
 exact⟨List.mem_cons_of_mem _ (qAt ..),by show r+1≠r;omega⟩
theorem keeps_of_below {D:Nat} {W W':World} (h:Below W.heap.size W W'):KeepsFrom D W W':=⟨h.size,fun k _ _ hk _=>(h.block k (Array.getElem?_eq_some_iff.1 hk).1).trans hk⟩
theorem Col.fin (c:Col w h0 B T E sz Q R l hp v W) (hQ:∀h',Sub hp h'→∀cs s,Q hp cs s→Q h' cs s):∃hf,Has W hf∧Sub h0 hf∧New w.heap.size h0 hf∧
  ∃a cap,v=.slice a l.length cap∧∀i s,l[i]?=some s→∃ad cs,a=some ad∧Q hf cs s∧∀j u,cs[j]?=some u→hf.at ((ad.add (i*sz)).add j)=some u:=by
 obtain⟨xs,h1,h2⟩:=c.row
 rcases h1.2 with⟨rfl,e0⟩ |⟨g,cap,cur,rfl,hb,hgb,_,_,hs,ht⟩
 ·exact⟨hp,c.has,c.sub,c.new,none,0,by rw[e0],fun i s hi=>by
   have:=(List.getElem?_eq_some_iff.1 hi).1
   omega⟩
 ·have hgn:=c.off g rfl
  have hsub:Sub hp (fun k=>if k=g then some cur else hp k):=fun k cs hx=>by
   show(if k=g then some cur else hp k)=some cs
   rw[if_neg (fun e=>by rw[e,hgn] at hx;cases hx)];exact hx
  refine⟨fun k=>if k=g then some cur else hp k,fun k cs hx=>?_,c.sub.trans hsub,fun k hx=>?_,some ⟨g,0,none⟩,cap,rfl,fun i s hi=>⟨_,_,rfl,hQ _ hsub _ _ (h2.2 i s hi),fun j u hj=>?_⟩⟩
  ·have hx:(if k=g then some cur else hp k)=some cs:=hx
   by_cases e:k=g
   ·rw[if_pos e] at hx;cases hx;exact⟨_,_,e▸hgb⟩
   ·rw[if_neg e] at hx;exact c.has _ _ hx
  ·have hx:(if k=g then some cur else hp k)≠none:=hx
   by_cases e:k=g
   ·exact .inr (e▸hb)
   ·rw[if_neg e] at hx;exact c.new k hx
  ·rw[at_off (cs:=cur) (by show(if g=g then some cur else hp g)=_;rw[if_pos rfl])]
   rw[←ht] at hj
   rw[List.getElem?_take] at hj
   split at hj
   ·rw[List.getElem?_drop,List.getElem?_take] at hj
    split at hj
    ·simpa using hj
    ·cases hj
   ·cases hj
end
theorem at_store {F:Fence} {n:Nat} {P:Program} {w:World} {ops:Array Oper} {rest:List Oper} {d:Option Tmp} {T:TypeId} {x y:Operand} {ty:TypeId} {ps:String} {af:Array Edge} {a:Act} {Q:Exit→Act→World→Prop}
  (h:wpListIn F n P ops Q (⟨d,.store T x y,ty,ps,af,none⟩ :: rest) a w):wpListIn F n P ops Q (⟨d,.store T x y,ty,ps,af,none⟩ :: rest) a w:=h
theorem wpListIn_store_box {F:Fence} {n:Nat} {M:Mach} {P:Program} (hP:M.P=P) {w:World} {ops:Array Oper} {rest:List Oper} {o:Oper} {a:Act} {Q:Exit→Act→World→Prop} (b off:Nat) (vs:List Value) (cs:Array Value) {T Tb:TypeId} {x y:Operand} {t:Option Nat} (hgd:o.guard=none)
  (ho:o.op=.store T x y) (hx:a.eval x=.pointer (some ⟨b,off,none⟩)) (hy:(a.eval y).cells=vs.toArray) (ht:tk M.P T=some t) (hsz:bT t=vs.length) (hall:vs.all Value.oneCell'=true) (hb:w.heap[b]?=some (.cells cs Tb (0,0))) (hle:off+vs.length≤cs.size)
  (h:∀w',w'.heap[b]?=some (.cells (spl cs.toList off vs).toArray Tb (0,0))→w.grownBy w' (some b)→wpListIn F n P ops Q rest (a.put o.dst undef) w'):wpListIn F n P ops Q (o :: rest) a w:=by
 subst hP
 refine wpListIn_plain hgd fun K hK=>?_
 have hs:(sizeOf T).run M.P w=.ok (bT t) w:=by
  cases t with
  |none=>exact(wH ht w).2
  |some m=>exact(tT ht w).2
 obtain⟨w',h1,h2,h3⟩:=jd (P:=M.P) vs cs.toList off 0 w (by simpa using hb) (by simpa using hle) hall
 unfold Oper.wpIn
 refine⟨by simp[Oper.about,ho],?_⟩
 rw[Oper.semAt_plain F _ _ (by rw[ho];intro c hc';cases hc')]
 have hrun:(execOp a.eval o).run M.P w=.ok .skip w':=by
  simp only[execOp,ho,Instr.storeAt,Instr.sureAddr,hx,Sem.run_bind,Sem.run_pure,Result.andThen_ok,storeVar,hs,hsz,hy]
  simp[h1]
 rw[hrun]
 exact hK _ _ (h w' (by simpa using h2) ⟨h3.os,h3.tape,h3.output,Nat.le_of_eq h3.size.symm,fun k _ hk=>h3.other k (fun e=>hk (by rw[e]))⟩)
theorem results_cell2 {fn:Func} {t u:Tmp} {T1 T2:TypeId} (h:fn.results=#[.cell t T1,.cell u T2]) {tmps:Array Value} {P:Program} {w:World} {p q:Addr} {x y:Value} (ht:tmps[t]?.getD undef=.pointer (some p)) (hu:tmps[u]?.getD undef=.pointer (some q))
  (hx:(loadVar T1 p).run P w=.ok x w) (hy:(loadVar T2 q).run P w=.ok y w):(results fn tmps).run P w=.ok (.tuple #[x,y]) w:=by
 simp[results,h,ht,hu,asAddr,hx,hy,Result.andThen]
open Go.Proofs
set_option maxRecDepth 100000
set_option maxHeartbeats 4000000
namespace NS
def lo0:NS→Rat
 |.e=>0
 |.i a _=>a.getD 0
def hi0:NS→Rat
 |.e=>0
 |.i _ b=>b.getD 0
def loN:NS→Bool
 |.e=>false
 |.i a _=>a.isNone
def hiN:NS→Bool
 |.e=>false
 |.i _ b=>b.isNone
end NS
def Rr (h:PH) (v:Value) (x:NS):Prop:=∃b1 x1 y1 b2 x2 y2,v=.agg #[.bool b1,x1,y1,.bool b2,x2,y2,.bool x.loN,.bool x.hiN,.bool x.void]∧Qr h (.agg #[.bool b1,x1,y1]) x.lo0∧Qr h (.agg #[.bool b2,x2,y2]) x.hi0
theorem Rr.to {h h':PH} {v:Value} {x:NS} (r:Rr h v x) [Le h h']:Rr h' v x:=let ⟨a,b,c,d,e,f,h1,h2,h3⟩:=r;⟨a,b,c,d,e,f,h1,h2.to,h3.to⟩
theorem Rr.sa {h:PH} {v:Value} {x:NS} (r:Rr h v x):∃b1 a1 m1 c1 a2 m2 c2 b2 a3 m3 c3 a4 m4 c4,v=.agg #[.bool b1,.slice a1 m1 c1,.slice a2 m2 c2,.bool b2,.slice a3 m3 c3,.slice a4 m4 c4,.bool x.loN,.bool x.hiN,.bool x.void]∧
  Qr h (.agg #[.bool b1,.slice a1 m1 c1,.slice a2 m2 c2]) x.lo0∧Qr h (.agg #[.bool b2,.slice a3 m3 c3,.slice a4 m4 c4]) x.hi0:=by
 obtain⟨b1,x1,y1,b2,x2,y2,rfl,h1,h2⟩:=r
 obtain⟨_,_,_,_,_,_,_,e1,_⟩:=h1.sa
 obtain⟨_,_,_,_,_,_,_,e2,_⟩:=h2.sa
 simp only[Value.agg.injEq,Array.mk.injEq,List.cons.injEq,and_true] at e1 e2
 obtain⟨_,rfl,rfl⟩:=e1
 obtain⟨_,rfl,rfl⟩:=e2
 exact⟨_,_,_,_,_,_,_,_,_,_,_,_,_,_,rfl,h1,h2⟩
theorem HY:sz 0≤1:=by decide
theorem NS.le_ends {k:Nat} {x:NS} (hk:1≤k):x.le k↔sz x.lo0≤k∧sz x.hi0≤k:=by
 have h0:sz 0≤k:=χ HY hk
 cases x with
 |e=>simp[NS.le,NS.all,NS.lo0,NS.hi0,h0]
 |i a b=>cases a<;>cases b<;>simp[NS.le,NS.all,NS.lo0,NS.hi0,h0]
theorem i6 {h:PH}:Spec mach 71 #[] h (fun v h'=>Rr h' v .e) NP:=by
 refine Spec.go [] Tryz.func71 rfl rfl (by kernel_rfl) fun C _=>?_
 try simp(maxSteps:=999999) (disch:=omega) only[go_sem,ξ,ζ]
 exact⟨_,_,_,_,_,_,rfl,Qr.none _,Qr.none _⟩
theorem RefOf {h0 h:PH} [Le h0 h] {v:Value} {x:RI} (hv:Iv h0 v x) (g:x.big=false):Spec mach 35 #[v] h (fun v h'=>Rr h' v x.set) NP:=by
 obtain⟨a1,m1,c1,a2,m2,c2,a3,m3,c3,a4,m4,c4,rfl,hx,hy⟩:=hv.sa
 obtain⟨g1,g2⟩:=RI.small g
 have z1:sz (qof x.n1 x.a1 x.d1)≤2^30:=by unfold Go.Q.lg at g1;omega
 have z2:sz (qof x.n2 x.a2 x.d2)≤2^30:=by unfold Go.Q.lg at g2;omega
 obtain⟨n1,a1',d1,n2,a2',d2,l,u⟩:=x
 dsimp only at*
 unfold RI.set RI.lo RI.hi NS.mk'
 dsimp only
 obtain⟨q1,hq1⟩:∃q,qof n1 a1' d1=q:=⟨_,rfl⟩
 obtain⟨q2,hq2⟩:∃q,qof n2 a2' d2=q:=⟨_,rfl⟩
 have k1:=fun {h} [Le h0 h]=>bM (h:=h) hx
 have k2:=fun {h} [Le h0 h]=>bM (h:=h) hy
 rw[hq1] at z1 k1 ⊢
 rw[hq2] at z2 k2 ⊢
 cases l with
 | true=>
  cases u with
  | true=>
   refine Spec.go [] Tryz.func35 rfl rfl (by kernel_rfl) fun C _=>?_
   try simp(maxSteps:=999999) (disch:=omega) only[go_sem,ξ,ζ]
   exact⟨_,_,_,_,_,_,rfl,Qr.none _,Qr.none _⟩
  | false=>
   refine Spec.go [] Tryz.func35 rfl rfl (by kernel_rfl) fun C _=>?_
   try simp(maxSteps:=999999) (disch:=omega) only[go_sem,ξ,ζ]
   refine caN (by exact k2) ?_;rintro _ h1 _ f1;obtain⟨_,_,_,_,_,_,_,rfl,f1⟩:=f1.sa
   try simp(maxSteps:=999999) (disch:=omega) only[go_sem,ξ,ζ]
   exact⟨_,_,_,_,_,_,rfl,Qr.none _,f1.to⟩
 | false=>
  cases u with
  | true=>
   refine Spec.go [] Tryz.func35 rfl rfl (by kernel_rfl) fun C _=>?_
   try simp(maxSteps:=999999) (disch:=omega) only[go_sem,ξ,ζ]
   refine caN (by exact k1) ?_;rintro _ h1 _ f1;obtain⟨_,_,_,_,_,_,_,rfl,f1⟩:=f1.sa
   try simp(maxSteps:=999999) (disch:=omega) only[go_sem,ξ,ζ]
   exact⟨_,_,_,_,_,_,rfl,f1.to,Qr.none _⟩
  | false=>
   by_cases hlt:q2 < q1
   ·have e1:0 < cmpQ q1 q2:=by unfold cmpQ;grind
    simp only[ordO,hlt,decide_true,Bool.not_true,cond_false]
    refine Spec.go [] Tryz.func35 rfl rfl (by kernel_rfl) fun C _=>?_
    try simp(maxSteps:=999999) (disch:=omega) only[go_sem,ξ,ζ]
    refine caN (by exact k1) ?_;rintro _ h1 _ f1;obtain⟨_,_,_,_,_,_,_,rfl,f1⟩:=f1.sa
    try simp(maxSteps:=999999) (disch:=omega) only[go_sem,ξ,ζ]
    refine caN (by exact k2) ?_;rintro _ h2 _ f2;obtain⟨_,_,_,_,_,_,_,rfl,f2⟩:=f2.sa
    try simp(maxSteps:=999999) (disch:=omega) only[go_sem,ξ,ζ]
    refine caN (by exact av (f1.to (h':=h2)) f2 (by omega) (by omega)) ?_;rintro v3 h3 s3 rfl
    try simp(maxSteps:=999999) (disch:=omega) only[go_sem,ξ,ζ]
    refine caN (by exact i6) ?_;rintro v4 h4 s4 hv4;obtain⟨_,_,_,_,_,_,_,_,_,_,_,_,_,_,rfl,t1,t2⟩:=hv4.sa
    try simp(maxSteps:=999999) (disch:=omega) only[go_sem,ξ,ζ]
    exact⟨_,_,_,_,_,_,rfl,t1.to,t2.to⟩
   ·have e1:¬0 < cmpQ q1 q2:=by unfold cmpQ;grind
    simp only[ordO,hlt,decide_false,Bool.not_false,cond_true]
    refine Spec.go [] Tryz.func35 rfl rfl (by kernel_rfl) fun C _=>?_
    try simp(maxSteps:=999999) (disch:=omega) only[go_sem,ξ,ζ]
    refine caN (by exact k1) ?_;rintro _ h1 _ f1;obtain⟨_,_,_,_,_,_,_,rfl,f1⟩:=f1.sa
    try simp(maxSteps:=999999) (disch:=omega) only[go_sem,ξ,ζ]
    refine caN (by exact k2) ?_;rintro _ h2 _ f2;obtain⟨_,_,_,_,_,_,_,rfl,f2⟩:=f2.sa
    try simp(maxSteps:=999999) (disch:=omega) only[go_sem,ξ,ζ]
    refine caN (by exact av (f1.to (h':=h2)) f2 (by omega) (by omega)) ?_;rintro v3 h3 s3 rfl
    try simp(maxSteps:=999999) (disch:=omega) only[go_sem,ξ,ζ]
    exact⟨_,_,_,_,_,_,rfl,f1.to,f2.to⟩
theorem jp {h0 h:PH} [Le h0 h] {v:Value} {x:NS} (hv:Rr h0 v x) (hf:x.le (2^36)):Spec mach 81 #[v] h (fun v h'=>Cv h' v x) NP:=by
 rw[NS.le_ends (by decide)] at hf
 obtain⟨_,_,_,_,_,_,_,_,_,_,_,_,_,_,rfl,t1,t2⟩:=hv.sa
 cases x with
 | e=>
  dsimp only[NS.void]
  refine Spec.go [(3,.o [0,1,3,4,6,7,8,9,2,5,10,11])] Tryz.func81 rfl rfl (by kernel_rfl) fun C _=>?_
  try simp(maxSteps:=999999) (disch:=omega) only[go_sem,ξ,ζ]
  refine caN (by exact aF (n:=1) (by decide) (by decide)) ?_;rintro _ h1 _ f1;obtain⟨_,_,_,_,_,_,_,rfl,f1⟩:=f1.sa
  try simp(maxSteps:=999999) (disch:=omega) only[go_sem,ξ,ζ]
  refine caN (by exact cA f1 (by decide)) ?_;rintro _ h2 _ f2;obtain⟨_,_,_,_,_,_,_,rfl,f2⟩:=f2.sa
  try simp(maxSteps:=999999) (disch:=omega) only[go_sem,ξ,ζ]
  exact⟨_,_,_,_,_,_,rfl,f2.to,Cn.zero _⟩
 | i a b=>
  dsimp only[NS.void,NS.loN,NS.hiN,NS.lo0,NS.hi0] at*
  refine Spec.go [(3,.o [0,1,3,4,6,7,8,9,2,5,10,11])] Tryz.func81 rfl rfl (by kernel_rfl) fun C _=>?_
  try simp(maxSteps:=999999) (disch:=omega) only[go_sem,ξ,ζ]
  refine caN (by exact cA t1 hf.1) ?_;rintro _ h1 _ f1;obtain⟨_,_,_,_,_,_,_,rfl,f1⟩:=f1.sa
  try simp(maxSteps:=999999) (disch:=omega) only[go_sem,ξ,ζ]
  refine caN (by exact cA t2 hf.2) ?_;rintro _ h2 _ f2;obtain⟨_,_,_,_,_,_,_,rfl,f2⟩:=f2.sa
  try simp(maxSteps:=999999) (disch:=omega) only[go_sem,ξ,ζ]
  exact⟨_,_,_,_,_,_,rfl,f1.to,f2.to⟩
theorem iI {h0 h:PH} [Le h0 h] {v:Value} {x:NS} (hv:Rr h0 v x):Spec mach 137 #[v] h (fun r h'=>Ir h' r (Out.fin (.ok x))) NP:=by
  have hv0:=hv
  obtain⟨_,_,_,_,_,_,_,_,_,_,_,_,_,_,rfl,t1,t2⟩:=hv.sa
  unfold Out.fin
  by_cases z1:sz x.lo0≤2048
  · by_cases z2:sz x.hi0≤2048
    · have hf:x.le 2048:=(NS.le_ends (by decide)).2 ⟨z1,z2⟩
      have e1:(decide (2048 < sz x.lo0))=false:=by simp;omega
      have e2:(decide (2048 < sz x.hi0))=false:=by simp;omega
      have o1:=fun {h} [Le h0 h]=>dh (h:=h) t1
      have o2:=fun {h} [Le h0 h]=>dh (h:=h) t2
      rw[e1] at o1
      rw[e2] at o2
      simp only[hf,decide_true,cond_true]
      refine Spec.go [] Tryz.func137 rfl rfl (by kernel_rfl) fun C _=>?_
      try simp(maxSteps:=999999) (disch:=omega) only[go_sem,ξ,ζ]
      refine caN (by exact o1) ?_;rintro v1 h1 s1 rfl
      try simp(maxSteps:=999999) (disch:=omega) only[go_sem,ξ,ζ]
      refine caN (by exact o2) ?_;rintro v2 h2 s2 rfl
      try simp(maxSteps:=999999) (disch:=omega) only[go_sem,ξ,ζ]
      refine caN (by exact jp hv0 (hf.up (by decide))) ?_;rintro _ h3 _ f3;obtain⟨_,_,_,_,_,_,_,_,_,_,_,_,_,_,_,_,rfl,f3⟩:=f3.sa
      try simp(maxSteps:=999999) (disch:=omega) only[go_sem,ξ,ζ]
      exact⟨_,rfl,f3⟩
    · have hf:¬x.le 2048:=fun k=>z2 ((NS.le_ends (by decide)).1 k).2
      have e1:(decide (2048 < sz x.lo0))=false:=by simp;omega
      have e2:(decide (2048 < sz x.hi0))=true:=by simp;omega
      have o1:=fun {h} [Le h0 h]=>dh (h:=h) t1
      have o2:=fun {h} [Le h0 h]=>dh (h:=h) t2
      rw[e1] at o1
      rw[e2] at o2
      simp only[hf,decide_false,cond_false]
      refine Spec.go [] Tryz.func137 rfl rfl (by kernel_rfl) fun C _=>?_
      try simp(maxSteps:=999999) (disch:=omega) only[go_sem,ξ,ζ]
      refine caN (by exact o1) ?_;rintro v1 h1 s1 rfl
      try simp(maxSteps:=999999) (disch:=omega) only[go_sem,ξ,ζ]
      refine caN (by exact o2) ?_;rintro v2 h2 s2 rfl
      try simp(maxSteps:=999999) (disch:=omega) only[go_sem,ξ,ζ]
      all_goals rfl
  · have hf:¬x.le 2048:=fun k=>z1 ((NS.le_ends (by decide)).1 k).1
    have e1:(decide (2048 < sz x.lo0))=true:=by simp;omega
    have o1:=fun {h} [Le h0 h]=>dh (h:=h) t1
    rw[e1] at o1
    simp only[hf,decide_false,cond_false]
    refine Spec.go [] Tryz.func137 rfl rfl (by kernel_rfl) fun C _=>?_
    try simp(maxSteps:=999999) (disch:=omega) only[go_sem,ξ,ζ]
    refine caN (by exact o1) ?_;rintro v1 h1 s1 rfl
    try simp(maxSteps:=999999) (disch:=omega) only[go_sem,ξ,ζ]
    all_goals rfl
theorem jb {h0 h:PH} [Le h0 h] {v:Value} {x:NS} {p:Int} (hv:Rr h0 v x) (hf:x.le (2^30)) (hp:0≤p∧p≤128):Spec mach 138 #[v,.int .i64 p] h (fun v h'=>Rr h' v (x.hull p.toNat)) NP:=by
 rw[NS.le_ends (by decide)] at hf
 obtain⟨_,_,_,_,_,_,_,_,_,_,_,_,_,_,rfl,t1,t2⟩:=hv.sa
 have k1:=fun {h} [Le h0 h]=>j9 (h:=h) (p:=p.toNat) t1 hf.1 (by omega)
 have k2:=fun {h} [Le h0 h]=>np (h:=h) (p:=p.toNat) t2 hf.2 (by omega)
 rw[show((p.toNat:Nat):Int)=p by omega] at k1 k2
 cases x with
 | e=>
  dsimp only[NS.void]
  refine Spec.go [] Tryz.func138 rfl rfl (by kernel_rfl) fun C _=>?_
  try simp(maxSteps:=999999) (disch:=omega) only[go_sem,ξ,ζ]
  exact⟨_,_,_,_,_,_,rfl,t1.to,t2.to⟩
 | i a b=>
  dsimp only[NS.void,NS.loN,NS.hiN,NS.lo0,NS.hi0] at*
  cases a with
  | none=>
   cases b with
   | none=>
    dsimp only[Option.isNone,Option.getD] at*
    refine Spec.go [] Tryz.func138 rfl rfl (by kernel_rfl) fun C _=>?_
    try simp(maxSteps:=999999) (disch:=omega) only[go_sem,ξ,ζ]
    exact⟨_,_,_,_,_,_,rfl,t1.to,t2.to⟩
   | some b=>
    dsimp only[Option.isNone,Option.getD] at*
    refine Spec.go [] Tryz.func138 rfl rfl (by kernel_rfl) fun C _=>?_
    try simp(maxSteps:=999999) (disch:=omega) only[go_sem,ξ,ζ]
    refine caN (by exact k2) ?_;rintro _ h2 _ f2;obtain⟨_,_,_,_,_,_,_,rfl,f2⟩:=f2.sa
    try simp(maxSteps:=999999) (disch:=omega) only[go_sem,ξ,ζ]
    exact⟨_,_,_,_,_,_,rfl,t1.to,f2.to⟩
  | some a=>
   cases b with
   | none=>
    dsimp only[Option.isNone,Option.getD] at*
    refine Spec.go [] Tryz.func138 rfl rfl (by kernel_rfl) fun C _=>?_
    try simp(maxSteps:=999999) (disch:=omega) only[go_sem,ξ,ζ]
    refine caN (by exact k1) ?_;rintro _ h1 _ f1;obtain⟨_,_,_,_,_,_,_,rfl,f1⟩:=f1.sa
    try simp(maxSteps:=999999) (disch:=omega) only[go_sem,ξ,ζ]
    exact⟨_,_,_,_,_,_,rfl,f1.to,t2.to⟩
   | some b=>
    dsimp only[Option.isNone,Option.getD] at*
    refine Spec.go [] Tryz.func138 rfl rfl (by kernel_rfl) fun C _=>?_
    try simp(maxSteps:=999999) (disch:=omega) only[go_sem,ξ,ζ]
    refine caN (by exact k1) ?_;rintro _ h1 _ f1;obtain⟨_,_,_,_,_,_,_,rfl,f1⟩:=f1.sa
    try simp(maxSteps:=999999) (disch:=omega) only[go_sem,ξ,ζ]
    refine caN (by exact k2) ?_;rintro _ h2 _ f2;obtain⟨_,_,_,_,_,_,_,rfl,f2⟩:=f2.sa
    try simp(maxSteps:=999999) (disch:=omega) only[go_sem,ξ,ζ]
    exact⟨_,_,_,_,_,_,rfl,f1.to,f2.to⟩
theorem eZ {h0 h:PH} [Le h0 h] {v:Value} {x:RI} (hv:Iv h0 v x):Spec mach 34 #[v] h (fun r _=>r=.bool x.big) NP:=by
 obtain⟨a1,m1,c1,a2,m2,c2,a3,m3,c3,a4,m4,c4,rfl,hx,hy⟩:=hv.sa
 have k1:=fun {h} [Le h0 h]=>jJ (h:=h) hx
 have k2:=fun {h} [Le h0 h]=>jJ (h:=h) hy
 unfold RI.big
 obtain⟨l1,e1⟩:∃b,decide (lg x.n1 x.a1 x.d1)=b:=⟨_,rfl⟩
 obtain⟨l2,e2⟩:∃b,decide (lg x.n2 x.a2 x.d2)=b:=⟨_,rfl⟩
 rw[e1] at k1 ⊢
 rw[e2] at k2 ⊢
 cases l1 with
 | true=>
  refine Spec.go [] Tryz.func34 rfl rfl (by kernel_rfl) fun C _=>?_
  try simp(maxSteps:=999999) (disch:=omega) only[go_sem,ξ,ζ]
  refine caN (by exact k1) ?_;rintro v1 h1 s1 rfl
  try simp(maxSteps:=999999) (disch:=omega) only[go_sem,ξ,ζ]
  all_goals rfl
 | false=>
  refine Spec.go [] Tryz.func34 rfl rfl (by kernel_rfl) fun C _=>?_
  try simp(maxSteps:=999999) (disch:=omega) only[go_sem,ξ,ζ]
  refine caN (by exact k1) ?_;rintro v1 h1 s1 rfl
  try simp(maxSteps:=999999) (disch:=omega) only[go_sem,ξ,ζ]
  refine caN (by exact k2) ?_;rintro v2 h2 s2 rfl
  try simp(maxSteps:=999999) (disch:=omega) only[go_sem,ξ,ζ]
def R1 (h:PH) (r:Value):Out→Prop
 |.error e=>r=.tuple #[.agg #[.bool false,.slice none 0 0,.slice none 0 0,.bool false,.slice none 0 0,.slice none 0 0,.bool false,.bool false,.bool false],.int .i64 e]
 |.ok x=>∃u,r=.tuple #[u,.int .i64 0]∧Rr h u x
theorem e8 {h0 h:PH} [Le h0 h] {v:Value} {x:RI} {p:Int} (hv:Iv h0 v x) (g:x.big=true):Spec mach 141 #[v,.int .i64 p] h (fun r h'=>R1 h' r (.error 1)) NP:=by
 have hv0:=hv
 have kl:=fun {h} [Le h0 h]=>eZ (h:=h) hv
 rw[g] at kl
 obtain⟨a1,m1,c1,a2,m2,c2,a3,m3,c3,a4,m4,c4,rfl,hx,hy⟩:=hv.sa
 refine Spec.go [] Tryz.func141 rfl rfl (by kernel_rfl) fun C _=>?_
 try simp(maxSteps:=999999) (disch:=omega) only[go_sem,ξ,ζ]
 refine caN (by exact kl) ?_;rintro v1 h1 s1 rfl
 try simp(maxSteps:=999999) (disch:=omega) only[go_sem,ξ,ζ]
 all_goals rfl
theorem rM {h0 h:PH} [Le h0 h] {v:Value} {x:RI} {p:Int} (hv:Iv h0 v x) (g:x.big=false) (gp:bad p=true):Spec mach 141 #[v,.int .i64 p] h (fun r h'=>R1 h' r (.error 2)) NP:=by
 have hv0:=hv
 have kl:=fun {h} [Le h0 h]=>eZ (h:=h) hv
 rw[g] at kl
 obtain⟨a1,m1,c1,a2,m2,c2,a3,m3,c3,a4,m4,c4,rfl,hx,hy⟩:=hv.sa
 by_cases h2:p < 0
 ·refine Spec.go [] Tryz.func141 rfl rfl (by kernel_rfl) fun C _=>?_
  try simp(maxSteps:=999999) (disch:=omega) only[go_sem,ξ,ζ]
  refine caN (by exact kl) ?_;rintro v1 h1 s1 rfl
  try simp(maxSteps:=999999) (disch:=omega) only[go_sem,ξ,ζ]
  all_goals rfl
 ·have h3:128 < p:=(i7 gp).resolve_left h2
  refine Spec.go [] Tryz.func141 rfl rfl (by kernel_rfl) fun C _=>?_
  try simp(maxSteps:=999999) (disch:=omega) only[go_sem,ξ,ζ]
  refine caN (by exact kl) ?_;rintro v1 h1 s1 rfl
  try simp(maxSteps:=999999) (disch:=omega) only[go_sem,ξ,ζ]
  all_goals rfl
theorem fu {h0 h:PH} [Le h0 h] {v:Value} {x:RI} {p:Int} (hv:Iv h0 v x) (g:x.big=false) (gp:bad p=false):Spec mach 141 #[v,.int .i64 p] h (fun r h'=>R1 h' r (.ok x.set)) NP:=by
 have hv0:=hv
 have kl:=fun {h} [Le h0 h]=>eZ (h:=h) hv
 rw[g] at kl
 obtain⟨a1,m1,c1,a2,m2,c2,a3,m3,c3,a4,m4,c4,rfl,hx,hy⟩:=hv.sa
 have h2:=jt gp
 have h3:¬p < 0:=by omega
 have h4:¬128 < p:=by omega
 refine Spec.go [] Tryz.func141 rfl rfl (by kernel_rfl) fun C _=>?_
 try simp(maxSteps:=999999) (disch:=omega) only[go_sem,ξ,ζ]
 refine caN (by exact kl) ?_;rintro v1 h1 s1 rfl
 try simp(maxSteps:=999999) (disch:=omega) only[go_sem,ξ,ζ]
 refine caN (by exact RefOf hv0 g) ?_;rintro _ h2' _ f2;obtain⟨_,_,_,_,_,_,_,_,_,_,_,_,_,_,rfl,f2⟩:=f2.sa
 try simp(maxSteps:=999999) (disch:=omega) only[go_sem,ξ,ζ]
 exact⟨_,rfl,f2⟩
theorem R1.err {h:PH} {r:Value} {e:Int} (k:R1 h r (.error e)):r=.tuple #[.agg #[.bool false,.slice none 0 0,.slice none 0 0,.bool false,.slice none 0 0,.slice none 0 0,.bool false,.bool false,.bool false],.int .i64 e]:=k
theorem R1.ok {h:PH} {r:Value} {x:NS} (k:R1 h r (.ok x)):∃b1 a1 m1 c1 a2 m2 c2 b2 a3 m3 c3 a4 m4 c4,r=.tuple #[.agg #[.bool b1,.slice a1 m1 c1,.slice a2 m2 c2,.bool b2,.slice a3 m3 c3,.slice a4 m4 c4,.bool x.loN,.bool x.hiN,.bool x.void],.int .i64 0]∧Rr h (.agg #[.bool b1,.slice a1 m1 c1,.slice a2 m2 c2,.bool b2,.slice a3 m3 c3,.slice a4 m4 c4,.bool x.loN,.bool x.hiN,.bool x.void]) x:=by
 obtain⟨u,rfl,k⟩:=k
 have k0:=k
 obtain⟨_,_,_,_,_,_,_,_,_,_,_,_,_,_,rfl,_,_⟩:=k.sa
 exact⟨_,_,_,_,_,_,_,_,_,_,_,_,_,_,rfl,k0⟩
theorem RefRound {h0 h:PH} [Le h0 h] {v:Value} {x:RI} {p:Int} (hv:Iv h0 v x):Spec mach 77 #[v,.int .i64 p] h (fun r h'=>Ir h' r (x.fin (Out.prec p (.ok (x.set.hull p.toNat))))) NP:=by
 have hv0:=hv
 obtain⟨a1,m1,c1,a2,m2,c2,a3,m3,c3,a4,m4,c4,rfl,hx,hy⟩:=hv.sa
 unfold RI.fin Out.prec
 cases g:x.big with
 | true=>
  refine Spec.go [] Tryz.func77 rfl rfl (by kernel_rfl) fun C _=>?_
  try simp(maxSteps:=999999) (disch:=omega) only[go_sem,ξ,ζ]
  refine caN (by exact e8 hv0 g) ?_;rintro v1 h1 s1 q1;obtain rfl:=q1.err
  try simp(maxSteps:=999999) (disch:=omega) only[go_sem,ξ,ζ]
  all_goals rfl
 | false=>
  cases gp:bad p with
  | true=>
   refine Spec.go [] Tryz.func77 rfl rfl (by kernel_rfl) fun C _=>?_
   try simp(maxSteps:=999999) (disch:=omega) only[go_sem,ξ,ζ]
   refine caN (by exact rM hv0 g gp) ?_;rintro v1 h1 s1 q1;obtain rfl:=q1.err
   try simp(maxSteps:=999999) (disch:=omega) only[go_sem,ξ,ζ]
   all_goals rfl
  | false=>
   refine Spec.go [] Tryz.func77 rfl rfl (by kernel_rfl) fun C _=>?_
   try simp(maxSteps:=999999) (disch:=omega) only[go_sem,ξ,ζ]
   refine caN (by exact fu hv0 g gp) ?_;rintro v1 h1 s1 q1;obtain⟨_,_,_,_,_,_,_,_,_,_,_,_,_,_,rfl,q2⟩:=q1.ok
   try simp(maxSteps:=999999) (disch:=omega) only[go_sem,ξ,ζ]
   refine caN (by exact jb q2 (RI.le30 g) (jt gp)) ?_;rintro v2 h2 s2 f2
   try simp(maxSteps:=999999) (disch:=omega) only[go_sem,ξ,ζ]
   refine caN (by exact iI f2) ?_;rintro _ h3 _ hr3;obtain⟨_,_,_,_,_,_,_,_,_,_,_,_,_,_,_,_,_,rfl,hr3⟩:=hr3.sa
   try simp(maxSteps:=999999) (disch:=omega) only[go_sem,ξ,ζ]
   exact hr3
namespace NS
def clo:NS→Rat
 |.e=>1
 |.i a _=>a.getD 0
def chi:NS→Rat
 |.e=>0
 |.i _ b=>b.getD 0
theorem le_c {k:Nat} {x:NS} (hk:1≤k) (h:x.le k):sz x.clo≤k∧sz x.chi≤k:=by
 have h0:sz 0≤k:=χ HY hk
 have h1:sz 1≤k:=χ (by decide) hk
 cases x with
 |e=>exact⟨h1,h0⟩
 | i a b=>
  rw[le_i] at h
  refine⟨?_,?_⟩
  ·cases a with
   |none=>exact h0
   |some a=>exact h.1 _ rfl
  ·cases b with
   |none=>exact h0
   |some b=>exact h.2 _ rfl
end NS
theorem Cv.fl {h:PH} {v:Value} {x:NS} (r:Cv h v x):∃b1 a1 m1 c1 a2 m2 c2 b2 a3 m3 c3 a4 m4 c4,v=.agg #[.bool b1,.slice a1 m1 c1,.slice a2 m2 c2,.bool b2,.slice a3 m3 c3,.slice a4 m4 c4,.bool x.loN,.bool x.hiN]∧
  Cn h (.agg #[.bool b1,.slice a1 m1 c1,.slice a2 m2 c2]) x.clo∧Cn h (.agg #[.bool b2,.slice a3 m3 c3,.slice a4 m4 c4]) x.chi:=by
 have r0:=r
 obtain⟨b1,x1,y1,b2,x2,y2,rfl,h1,h2⟩:=r
 obtain⟨_,_,_,_,_,_,_,e1,_⟩:=h1.sa
 obtain⟨_,_,_,_,_,_,_,e2,_⟩:=h2.sa
 simp only[Value.agg.injEq,Array.mk.injEq,List.cons.injEq,and_true] at e1 e2
 obtain⟨_,rfl,rfl⟩:=e1
 obtain⟨_,rfl,rfl⟩:=e2
 cases x with
 |e=>exact⟨_,_,_,_,_,_,_,_,_,_,_,_,_,_,rfl,h1,h2⟩
 |i a b=>exact⟨_,_,_,_,_,_,_,_,_,_,_,_,_,_,rfl,h1,h2⟩
def NS.ri (x:NS):RI:=⟨decide (x.clo.num < 0),x.clo.num.natAbs,if x.clo.den=1 then 0 else x.clo.den,decide (x.chi.num < 0),x.chi.num.natAbs,if x.chi.den=1 then 0 else x.chi.den,x.loN,x.hiN⟩
theorem Cv.iv {h:PH} {v:Value} {x:NS} (r:Cv h v x) (hf:x.le 2048):Iv h v x.ri:=by
 obtain⟨b1,a1,m1,c1,a2,m2,c2,b2,a3,m3,c3,a4,m4,c4,rfl,h1,h2⟩:=r.fl
 have hs:=NS.le_c (by decide) hf
 exact Iv.mk (h1.rw (χ hs.1 (by decide))) (h2.rw (χ hs.2 (by decide))) _ _
theorem NS.ri_big {x:NS} (hf:x.le 2048):x.ri.big=false:=by
 have hs:=NS.le_c (by decide) hf
 unfold RI.big NS.ri
 dsimp only
 have h1:¬lg (decide (x.clo.num < 0)) x.clo.num.natAbs (if x.clo.den=1 then 0 else x.clo.den):=by rw[lg_cn];omega
 have h2:¬lg (decide (x.chi.num < 0)) x.chi.num.natAbs (if x.chi.den=1 then 0 else x.chi.den):=by rw[lg_cn];omega
 simp only[h1,h2,decide_false,Bool.or_self]
theorem NS.ri_set {x:NS} (hx:x.ok):x.ri.set=x:=by
 unfold RI.set RI.lo RI.hi NS.ri
 dsimp only
 rw[jA,jA]
 cases x with
 |e=>simp[NS.loN,NS.hiN,NS.clo,NS.chi,NS.mk',ordO,show decide ((0:Rat) < 1)=true by decide]
 |i a b=>cases a<;>cases b<;>simp[NS.loN,NS.hiN,NS.clo,NS.chi,NS.mk']<;>simp[NS.ok] at hx<;>simp[hx]<;>rfl
theorem EA {h:PH}:Spec mach 79 #[zRat] h (fun r _=>r=.bool true) NP:=by
 unfold zRat
 refine Spec.go [] Tryz.func79 rfl rfl (by kernel_rfl) fun C _=>?_
 try simp(maxSteps:=999999) (disch:=omega) only[go_sem,ξ,ζ]
theorem None03 {h:PH}:Spec mach 41 #[zIv] h (fun r _=>r=.bool true) NP:=by
 unfold zIv
 refine Spec.go [] Tryz.func41 rfl rfl (by kernel_rfl) fun C _=>?_
 try simp(maxSteps:=999999) (disch:=omega) only[go_sem,ξ,ζ]
 refine caN (by exact EA) ?_;rintro v1 h1 s1 rfl
 try simp(maxSteps:=999999) (disch:=omega) only[go_sem,ξ,ζ]
 refine caN (by exact EA) ?_;rintro v2 h2 s2 rfl
 try simp(maxSteps:=999999) (disch:=omega) only[go_sem,ξ,ζ]
theorem Ar {h0 h:PH} [Le h0 h] {v:Value} {x:NS} (hv:Cv h0 v x) (hx:x.ok) (hf:x.le 2048):Spec mach 42 #[v] h (fun r _=>r=.bool true) NP:=by
 have hi:=hv.iv hf
 have hg:=NS.ri_big hf
 have hset:=NS.ri_set hx
 have hs:=NS.le_c (by decide) hf
 obtain⟨b1,a1,m1,c1,a2,m2,c2,b2,a3,m3,c3,a4,m4,c4,rfl,t1,t2⟩:=hv.fl
 have w1:=t1.rw (χ hs.1 (by decide))
 have w2:=t2.rw (χ hs.2 (by decide))
 obtain⟨l,el⟩:∃l,x.loN=l:=⟨_,rfl⟩
 obtain⟨u,eu⟩:∃u,x.hiN=u:=⟨_,rfl⟩
 have kO:=fun {h} [Le h0 h]=>RefOf (h:=h) hi hg
 rw[hset] at kO
 rw[el,eu] at kO ⊢
 have key:∀h' [Le h0 h'] v',Cv h' v' x→∃b1 a1 m1 c1 a2 m2 c2 b2 a3 m3 c3 a4 m4 c4,v'=.agg #[.bool b1,.slice a1 m1 c1,.slice a2 m2 c2,.bool b2,.slice a3 m3 c3,.slice a4 m4 c4,.bool l,.bool u]∧Cn h' (.agg #[.bool b1,.slice a1 m1 c1,.slice a2 m2 c2]) x.clo∧Cn h' (.agg #[.bool b2,.slice a3 m3 c3,.slice a4 m4 c4]) x.chi:=by
  intro h' _ v' r
  rw[←el,←eu];exact r.fl
 have z1:sz x.clo≤2^30:=χ hs.1 (by decide)
 have z2:sz x.chi≤2^30:=χ hs.2 (by decide)
 have z3:sz (qof (decide (x.clo.num < 0)) x.clo.num.natAbs (if x.clo.den=1 then 0 else x.clo.den))≤2^34:=by rw[jA];omega
 have z4:sz (qof (decide (x.chi.num < 0)) x.chi.num.natAbs (if x.chi.den=1 then 0 else x.chi.den))≤2^34:=by rw[jA];omega
 cases l<;>cases u<;>
 ·refine Spec.go [] Tryz.func42 rfl rfl (by kernel_rfl) fun C _=>?_
  try simp(maxSteps:=999999) (disch:=omega) only[go_sem,ξ,ζ]
  refine caN (by exact mq t1 z1) ?_;rintro v1 h1 s1 rfl
  try simp(maxSteps:=999999) (disch:=omega) only[go_sem,ξ,ζ]
  refine caN (by exact mq t2 z2) ?_;rintro v2 h2 s2 rfl
  try simp(maxSteps:=999999) (disch:=omega) only[go_sem,ξ,ζ]
  refine caN (by exact kO) ?_;rintro v3 h3 s3 q3
  try simp(maxSteps:=999999) (disch:=omega) only[go_sem,ξ,ζ]
  refine caN (by exact jp q3 (hf.up (by decide))) ?_;rintro v4 h4 s4 q4;obtain⟨_,_,_,_,_,_,_,_,_,_,_,_,_,_,rfl,q5,q6⟩:=key _ _ q4
  try simp(maxSteps:=999999) (disch:=omega) only[go_sem,ξ,ζ]
  refine caN (by exact zv (q5.rw z1) (w1.to (h':=h4)) z3 z3) ?_;rintro v5 h5 s5 q7;simp only[decide_true] at q7;subst q7
  try simp(maxSteps:=999999) (disch:=omega) only[go_sem,ξ,ζ]
  refine caN (by exact zv ((q6.rw z2).to (h':=h5)) (w2.to (h':=h5)) z4 z4) ?_;rintro v6 h6 s6 q8;simp only[decide_true] at q8;subst q8
  try simp(maxSteps:=999999) (disch:=omega) only[go_sem,ξ,ζ]
theorem mI (q:Rat):cmpQ q q=0:=by unfold cmpQ;grind
theorem RefSame {h0 h:PH} [Le h0 h] {v w:Value} {x:NS} (hv:Cv h0 v x) (hw:Cv h0 w x) (hx:x.ok) (hf:x.le 2048):Spec mach 43 #[v,w] h (fun r _=>r=.bool true) NP:=by
 have hi:=hv.iv hf
 have hj:=hw.iv hf
 have hg:=NS.ri_big hf
 have hset:=NS.ri_set hx
 have hz:=(NS.le_ends (by decide)).1 hf
 obtain⟨_,_,_,_,_,_,_,_,_,_,_,_,_,_,rfl,_,_⟩:=hv.fl
 obtain⟨_,_,_,_,_,_,_,_,_,_,_,_,_,_,rfl,_,_⟩:=hw.fl
 have kA:=fun {h} [Le h0 h]=>RefOf (h:=h) hi hg
 have kB:=fun {h} [Le h0 h]=>RefOf (h:=h) hj hg
 rw[hset] at kA kB
 clear hi hj hv hw
 refine Spec.enter (args:=[_,_]) (n:=51) Tryz.func43 rfl (by kernel_rfl) rfl (by simp) [.tmp 4] rfl (fun C _=>?_)
 repeat (first |(refine rg rfl rfl (fun K hK=>?_);(repeat (first |(refine wo rfl (fun k hk=>?_);simp(disch:=omega) only[go_sem,ξ,ζ];apply hk;clear hk k) |refine wkt rfl ?_));(try refine wk0 ?_);apply hK;clear hK K;(try dsimp only[ag,qs,qb])) |((first |refine ae ?_ |refine ac ?_);simp(disch:=decide) only[qs,qb,if_true,if_false,reduceIte]) |refine ah rfl (fun K hK=>?_) |refine ct rfl ?_ |((first |refine hK _ _ ?_ |(clear hK;refine hK _ _ ?_) |(clear hK;clear hK;refine hK _ _ ?_));clear hK;(try clear K)))
 (first |refine AWP_t (.seg [.o 0,.o 2] (.alt 1 (.alt 3 (.alt 4 (.alt 5 (.alt 6 (.alt 7 .done .no) .no) .no) (.alt 5 (.alt 4 (.alt 6 (.alt 7 .done .no) .no) .no) .no)) (.alt 4 (.alt 3 (.alt 5 (.alt 6 (.alt 7 .done .no) .no) .no) (.alt 5 (.alt 3 (.alt 6 (.alt 7 .done .no) .no) .no) .no)) (.alt 5 (.alt 3 (.alt 4 (.alt 6 (.alt 7 .done .no) .no) .no) (.alt 4 (.alt 3 (.alt 6 (.alt 7 .done .no) .no) .no) .no)) .no))) (.alt 4 (.alt 1 (.alt 3 (.alt 5 (.alt 6 (.alt 7 .done .no) .no) .no) (.alt 5 (.alt 3 (.alt 6 (.alt 7 .done .no) .no) .no) .no)) (.alt 5 (.alt 1 (.alt 3 (.alt 6 (.alt 7 .done .no) .no) .no) .no) .no)) (.alt 5 (.alt 1 (.alt 3 (.alt 4 (.alt 6 (.alt 7 .done .no) .no) .no) (.alt 4 (.alt 3 (.alt 6 (.alt 7 .done .no) .no) .no) .no)) (.alt 4 (.alt 1 (.alt 3 (.alt 6 (.alt 7 .done .no) .no) .no) .no) .no)) .no)))) (by decide+kernel) rfl (fun K hK=>?_) |refine mR (.seg [.o 0,.o 2] (.alt 1 (.alt 3 (.alt 4 (.alt 5 (.alt 6 (.alt 7 .done .no) .no) .no) (.alt 5 (.alt 4 (.alt 6 (.alt 7 .done .no) .no) .no) .no)) (.alt 4 (.alt 3 (.alt 5 (.alt 6 (.alt 7 .done .no) .no) .no) (.alt 5 (.alt 3 (.alt 6 (.alt 7 .done .no) .no) .no) .no)) (.alt 5 (.alt 3 (.alt 4 (.alt 6 (.alt 7 .done .no) .no) .no) (.alt 4 (.alt 3 (.alt 6 (.alt 7 .done .no) .no) .no) .no)) .no))) (.alt 4 (.alt 1 (.alt 3 (.alt 5 (.alt 6 (.alt 7 .done .no) .no) .no) (.alt 5 (.alt 3 (.alt 6 (.alt 7 .done .no) .no) .no) .no)) (.alt 5 (.alt 1 (.alt 3 (.alt 6 (.alt 7 .done .no) .no) .no) .no) .no)) (.alt 5 (.alt 1 (.alt 3 (.alt 4 (.alt 6 (.alt 7 .done .no) .no) .no) (.alt 4 (.alt 3 (.alt 6 (.alt 7 .done .no) .no) .no) .no)) (.alt 4 (.alt 1 (.alt 3 (.alt 6 (.alt 7 .done .no) .no) .no) .no) .no)) .no)))) (by decide+kernel) rfl (fun K hK=>?_))
 have rest:∀(cs ds:List Value) (h':PH) (S:AS) (ix:List Nat),Rr h' (.agg cs.toArray) x→Rr h' (.agg ds.toArray) x→S.leS ⟨[(5,.p 0 0),(6,.p 1 0)],[cs,ds]⟩ ix→K S h':=by
  intro cs ds h' S ix r1 r2 hS
  refine hK _ _ (Gh _ _ hS ?_);clear hK K kA kB
  obtain⟨_,_,_,_,_,_,_,_,_,_,_,_,_,_,e1,p1,p2⟩:=r1.sa
  obtain⟨_,_,_,_,_,_,_,_,_,_,_,_,_,_,e2,p3,p4⟩:=r2.sa
  simp only[Value.agg.injEq,Array.mk.injEq] at e1 e2
  subst e1
  subst e2
  cases x with
  | e=>
   dsimp only[NS.loN,NS.hiN,NS.void]
   (repeat (first |(refine rg rfl rfl (fun K hK=>?_);(repeat (first |(refine wo rfl (fun k hk=>?_);simp(disch:=omega) only[go_sem,ξ,ζ];apply hk;clear hk k) |refine wkt rfl ?_));(try refine wk0 ?_);apply hK;clear hK K;(try dsimp only[ag,qs,qb])) |((first |refine ae ?_ |refine ac ?_);simp(disch:=decide) only[qs,qb,if_true,if_false,reduceIte]) |refine ah rfl (fun K hK=>?_) |refine ct rfl ?_ |((first |refine hK _ _ ?_ |(clear hK;refine hK _ _ ?_) |(clear hK;clear hK;refine hK _ _ ?_));clear hK;(try clear K))))
   refine ai ?_;simp(disch:=omega) only[go_sem,ξ,ζ]
  | i a b=>
   obtain⟨l,el⟩:∃l,(NS.i a b).loN=l:=⟨_,rfl⟩
   obtain⟨u,eu⟩:∃u,(NS.i a b).hiN=u:=⟨_,rfl⟩
   rw[el,eu]
   dsimp only[NS.void]
   have c1:=fun {h} [Le h' h]=>av (h:=h) p1 p3 (by omega) (by omega)
   have c2:=fun {h} [Le h' h]=>av (h:=h) p2 p4 (by omega) (by omega)
   rw[mI] at c1 c2
   cases l<;>cases u<;>
   ·(repeat (first |(refine rg rfl rfl (fun K hK=>?_);(repeat (first |(refine wo rfl (fun k hk=>?_);simp(disch:=omega) only[go_sem,ξ,ζ];apply hk;clear hk k) |refine wkt rfl ?_));(try refine wk0 ?_);apply hK;clear hK K;(try dsimp only[ag,qs,qb])) |((first |refine ae ?_ |refine ac ?_);simp(disch:=decide) only[qs,qb,if_true,if_false,reduceIte]) |refine ah rfl (fun K hK=>?_) |refine ct rfl ?_ |((first |refine hK _ _ ?_ |(clear hK;refine hK _ _ ?_) |(clear hK;clear hK;refine hK _ _ ?_));clear hK;(try clear K))));(refine rg rfl rfl (fun K hK=>?_);(repeat (first |(refine wo rfl (fun k hk=>?_);simp(disch:=omega) only[go_sem,ξ,ζ];apply hk;clear hk k) |refine wkt rfl ?_ |with_reducible refine wk0 ?_ |with_reducible refine ao ?_ |with_reducible refine aj ?_ wt_no |with_reducible refine ak ?_)))
    refine cN rfl rfl rfl rfl (by exact c1) ?_;rintro v1 h1 s1 rfl;(repeat (first |(refine wo rfl (fun k hk=>?_);simp(disch:=omega) only[go_sem,ξ,ζ];apply hk;clear hk k) |refine wkt rfl ?_ |with_reducible refine wk0 ?_ |with_reducible refine ao ?_ |with_reducible refine aj ?_ wt_no |with_reducible refine ak ?_))
    refine cN rfl rfl rfl rfl (by exact c2) ?_;rintro v2 h2 s2 rfl;(repeat (first |(refine wo rfl (fun k hk=>?_);simp(disch:=omega) only[go_sem,ξ,ζ];apply hk;clear hk k) |refine wkt rfl ?_ |with_reducible refine wk0 ?_ |with_reducible refine ao ?_ |with_reducible refine aj ?_ wt_no |with_reducible refine ak ?_))
    (try (simp(disch:=omega) only[go_sem,ξ,ζ]));apply hK;clear hK;(try clear K);(try dsimp only[ag,qs])
    refine ai ?_;simp(disch:=omega) only[go_sem,ξ,ζ]
 (repeat (first |(refine wo rfl (fun k hk=>?_);simp(disch:=omega) only[go_sem,ξ,ζ];apply hk;clear hk k) |refine wkt rfl ?_ |with_reducible refine wk0 ?_ |with_reducible refine ao ?_ |with_reducible refine aj ?_ wt_no |with_reducible refine ak ?_))
 refine aj ?_ (aj ?_ (aj ?_ wt_no))
 ·refine cN rfl rfl rfl rfl (by exact kA) ?_;rintro v1 h1 st_h1 f1;obtain⟨v1_0,v1_1,v1_2,v1_3,v1_4,v1_5,v1_6,v1_7,v1_8,v1_9,v1_10,v1_11,v1_12,v1_13,rfl,f1⟩:=f1.sa;(repeat (first |(refine wo rfl (fun k hk=>?_);simp(disch:=omega) only[go_sem,ξ,ζ];apply hk;clear hk k) |refine wkt rfl ?_ |with_reducible refine wk0 ?_ |with_reducible refine ao ?_ |with_reducible refine aj ?_ wt_no |with_reducible refine ak ?_))
  refine aj ?_ (aj ?_ (aj ?_ wt_no))
  ·refine cN rfl rfl rfl rfl (by exact kB) ?_;rintro v2 h2 st_h2 f2;obtain⟨v2_0,v2_1,v2_2,v2_3,v2_4,v2_5,v2_6,v2_7,v2_8,v2_9,v2_10,v2_11,v2_12,v2_13,rfl,f2⟩:=f2.sa;(repeat (first |(refine wo rfl (fun k hk=>?_);simp(disch:=omega) only[go_sem,ξ,ζ];apply hk;clear hk k) |refine wkt rfl ?_ |with_reducible refine wk0 ?_ |with_reducible refine ao ?_ |with_reducible refine aj ?_ wt_no |with_reducible refine ak ?_))
   refine aj ?_ (aj ?_ wt_no)
   ·(repeat (first |(refine wo rfl (fun k hk=>?_);simp(disch:=omega) only[go_sem,ξ,ζ];apply hk;clear hk k) |refine wkt rfl ?_ |with_reducible refine wk0 ?_ |with_reducible refine ao ?_ |with_reducible refine aj ?_ wt_no |with_reducible refine ak ?_))
    refine rest _ _ _ _ [2,3] f1.to f2.to ?_
    simp(disch:=omega) only[go_sem,ξ,ζ,aJ,true_or]
   ·(repeat (first |(refine wo rfl (fun k hk=>?_);simp(disch:=omega) only[go_sem,ξ,ζ];apply hk;clear hk k) |refine wkt rfl ?_ |with_reducible refine wk0 ?_ |with_reducible refine ao ?_ |with_reducible refine aj ?_ wt_no |with_reducible refine ak ?_))
    refine rest _ _ _ _ [3,2] f1.to f2.to ?_
    simp(disch:=omega) only[go_sem,ξ,ζ,aJ,true_or]
  ·(repeat (first |(refine wo rfl (fun k hk=>?_);simp(disch:=omega) only[go_sem,ξ,ζ];apply hk;clear hk k) |refine wkt rfl ?_ |with_reducible refine wk0 ?_ |with_reducible refine ao ?_ |with_reducible refine aj ?_ wt_no |with_reducible refine ak ?_))
   refine aj ?_ (aj ?_ wt_no)
   ·refine cN rfl rfl rfl rfl (by exact kB) ?_;rintro v2 h2 st_h2 f2;obtain⟨v2_0,v2_1,v2_2,v2_3,v2_4,v2_5,v2_6,v2_7,v2_8,v2_9,v2_10,v2_11,v2_12,v2_13,rfl,f2⟩:=f2.sa;(repeat (first |(refine wo rfl (fun k hk=>?_);simp(disch:=omega) only[go_sem,ξ,ζ];apply hk;clear hk k) |refine wkt rfl ?_ |with_reducible refine wk0 ?_ |with_reducible refine ao ?_ |with_reducible refine aj ?_ wt_no |with_reducible refine ak ?_))
    refine rest _ _ _ _ [2,3] f1.to f2.to ?_
    simp(disch:=omega) only[go_sem,ξ,ζ,aJ,true_or]
   ·(repeat (first |(refine wo rfl (fun k hk=>?_);simp(disch:=omega) only[go_sem,ξ,ζ];apply hk;clear hk k) |refine wkt rfl ?_ |with_reducible refine wk0 ?_ |with_reducible refine ao ?_ |with_reducible refine aj ?_ wt_no |with_reducible refine ak ?_))
    refine cN rfl rfl rfl rfl (by exact kB) ?_;rintro v2 h2 st_h2 f2;obtain⟨v2_0,v2_1,v2_2,v2_3,v2_4,v2_5,v2_6,v2_7,v2_8,v2_9,v2_10,v2_11,v2_12,v2_13,rfl,f2⟩:=f2.sa;(repeat (first |(refine wo rfl (fun k hk=>?_);simp(disch:=omega) only[go_sem,ξ,ζ];apply hk;clear hk k) |refine wkt rfl ?_ |with_reducible refine wk0 ?_ |with_reducible refine ao ?_ |with_reducible refine aj ?_ wt_no |with_reducible refine ak ?_))
    refine rest _ _ _ _ [2,3] f1.to f2.to ?_
    simp(disch:=omega) only[go_sem,ξ,ζ,aJ,true_or]
  ·(repeat (first |(refine wo rfl (fun k hk=>?_);simp(disch:=omega) only[go_sem,ξ,ζ];apply hk;clear hk k) |refine wkt rfl ?_ |with_reducible refine wk0 ?_ |with_reducible refine ao ?_ |with_reducible refine aj ?_ wt_no |with_reducible refine ak ?_))
   refine aj ?_ (aj ?_ wt_no)
   ·refine cN rfl rfl rfl rfl (by exact kB) ?_;rintro v2 h2 st_h2 f2;obtain⟨v2_0,v2_1,v2_2,v2_3,v2_4,v2_5,v2_6,v2_7,v2_8,v2_9,v2_10,v2_11,v2_12,v2_13,rfl,f2⟩:=f2.sa;(repeat (first |(refine wo rfl (fun k hk=>?_);simp(disch:=omega) only[go_sem,ξ,ζ];apply hk;clear hk k) |refine wkt rfl ?_ |with_reducible refine wk0 ?_ |with_reducible refine ao ?_ |with_reducible refine aj ?_ wt_no |with_reducible refine ak ?_))
    refine rest _ _ _ _ [3,2] f1.to f2.to ?_
    simp(disch:=omega) only[go_sem,ξ,ζ,aJ,true_or]
   ·(repeat (first |(refine wo rfl (fun k hk=>?_);simp(disch:=omega) only[go_sem,ξ,ζ];apply hk;clear hk k) |refine wkt rfl ?_ |with_reducible refine wk0 ?_ |with_reducible refine ao ?_ |with_reducible refine aj ?_ wt_no |with_reducible refine ak ?_))
    refine cN rfl rfl rfl rfl (by exact kB) ?_;rintro v2 h2 st_h2 f2;obtain⟨v2_0,v2_1,v2_2,v2_3,v2_4,v2_5,v2_6,v2_7,v2_8,v2_9,v2_10,v2_11,v2_12,v2_13,rfl,f2⟩:=f2.sa;(repeat (first |(refine wo rfl (fun k hk=>?_);simp(disch:=omega) only[go_sem,ξ,ζ];apply hk;clear hk k) |refine wkt rfl ?_ |with_reducible refine wk0 ?_ |with_reducible refine ao ?_ |with_reducible refine aj ?_ wt_no |with_reducible refine ak ?_))
    refine rest _ _ _ _ [3,2] f1.to f2.to ?_
    simp(disch:=omega) only[go_sem,ξ,ζ,aJ,true_or]
 ·(repeat (first |(refine wo rfl (fun k hk=>?_);simp(disch:=omega) only[go_sem,ξ,ζ];apply hk;clear hk k) |refine wkt rfl ?_ |with_reducible refine wk0 ?_ |with_reducible refine ao ?_ |with_reducible refine aj ?_ wt_no |with_reducible refine ak ?_))
  refine aj ?_ (aj ?_ wt_no)
  ·refine cN rfl rfl rfl rfl (by exact kA) ?_;rintro v1 h1 st_h1 f1;obtain⟨v1_0,v1_1,v1_2,v1_3,v1_4,v1_5,v1_6,v1_7,v1_8,v1_9,v1_10,v1_11,v1_12,v1_13,rfl,f1⟩:=f1.sa;(repeat (first |(refine wo rfl (fun k hk=>?_);simp(disch:=omega) only[go_sem,ξ,ζ];apply hk;clear hk k) |refine wkt rfl ?_ |with_reducible refine wk0 ?_ |with_reducible refine ao ?_ |with_reducible refine aj ?_ wt_no |with_reducible refine ak ?_))
   refine aj ?_ (aj ?_ wt_no)
   ·refine cN rfl rfl rfl rfl (by exact kB) ?_;rintro v2 h2 st_h2 f2;obtain⟨v2_0,v2_1,v2_2,v2_3,v2_4,v2_5,v2_6,v2_7,v2_8,v2_9,v2_10,v2_11,v2_12,v2_13,rfl,f2⟩:=f2.sa;(repeat (first |(refine wo rfl (fun k hk=>?_);simp(disch:=omega) only[go_sem,ξ,ζ];apply hk;clear hk k) |refine wkt rfl ?_ |with_reducible refine wk0 ?_ |with_reducible refine ao ?_ |with_reducible refine aj ?_ wt_no |with_reducible refine ak ?_))
    refine rest _ _ _ _ [2,3] f1.to f2.to ?_
    simp(disch:=omega) only[go_sem,ξ,ζ,aJ,true_or]
   ·(repeat (first |(refine wo rfl (fun k hk=>?_);simp(disch:=omega) only[go_sem,ξ,ζ];apply hk;clear hk k) |refine wkt rfl ?_ |with_reducible refine wk0 ?_ |with_reducible refine ao ?_ |with_reducible refine aj ?_ wt_no |with_reducible refine ak ?_))
    refine cN rfl rfl rfl rfl (by exact kB) ?_;rintro v2 h2 st_h2 f2;obtain⟨v2_0,v2_1,v2_2,v2_3,v2_4,v2_5,v2_6,v2_7,v2_8,v2_9,v2_10,v2_11,v2_12,v2_13,rfl,f2⟩:=f2.sa;(repeat (first |(refine wo rfl (fun k hk=>?_);simp(disch:=omega) only[go_sem,ξ,ζ];apply hk;clear hk k) |refine wkt rfl ?_ |with_reducible refine wk0 ?_ |with_reducible refine ao ?_ |with_reducible refine aj ?_ wt_no |with_reducible refine ak ?_))
    refine rest _ _ _ _ [2,3] f1.to f2.to ?_
    simp(disch:=omega) only[go_sem,ξ,ζ,aJ,true_or]
  ·(repeat (first |(refine wo rfl (fun k hk=>?_);simp(disch:=omega) only[go_sem,ξ,ζ];apply hk;clear hk k) |refine wkt rfl ?_ |with_reducible refine wk0 ?_ |with_reducible refine ao ?_ |with_reducible refine aj ?_ wt_no |with_reducible refine ak ?_))
   refine cN rfl rfl rfl rfl (by exact kA) ?_;rintro v1 h1 st_h1 f1;obtain⟨v1_0,v1_1,v1_2,v1_3,v1_4,v1_5,v1_6,v1_7,v1_8,v1_9,v1_10,v1_11,v1_12,v1_13,rfl,f1⟩:=f1.sa;(repeat (first |(refine wo rfl (fun k hk=>?_);simp(disch:=omega) only[go_sem,ξ,ζ];apply hk;clear hk k) |refine wkt rfl ?_ |with_reducible refine wk0 ?_ |with_reducible refine ao ?_ |with_reducible refine aj ?_ wt_no |with_reducible refine ak ?_))
   refine cN rfl rfl rfl rfl (by exact kB) ?_;rintro v2 h2 st_h2 f2;obtain⟨v2_0,v2_1,v2_2,v2_3,v2_4,v2_5,v2_6,v2_7,v2_8,v2_9,v2_10,v2_11,v2_12,v2_13,rfl,f2⟩:=f2.sa;(repeat (first |(refine wo rfl (fun k hk=>?_);simp(disch:=omega) only[go_sem,ξ,ζ];apply hk;clear hk k) |refine wkt rfl ?_ |with_reducible refine wk0 ?_ |with_reducible refine ao ?_ |with_reducible refine aj ?_ wt_no |with_reducible refine ak ?_))
   refine rest _ _ _ _ [2,3] f1.to f2.to ?_
   simp(disch:=omega) only[go_sem,ξ,ζ,aJ,true_or]
 ·(repeat (first |(refine wo rfl (fun k hk=>?_);simp(disch:=omega) only[go_sem,ξ,ζ];apply hk;clear hk k) |refine wkt rfl ?_ |with_reducible refine wk0 ?_ |with_reducible refine ao ?_ |with_reducible refine aj ?_ wt_no |with_reducible refine ak ?_))
  refine aj ?_ (aj ?_ wt_no)
  ·refine cN rfl rfl rfl rfl (by exact kA) ?_;rintro v1 h1 st_h1 f1;obtain⟨v1_0,v1_1,v1_2,v1_3,v1_4,v1_5,v1_6,v1_7,v1_8,v1_9,v1_10,v1_11,v1_12,v1_13,rfl,f1⟩:=f1.sa;(repeat (first |(refine wo rfl (fun k hk=>?_);simp(disch:=omega) only[go_sem,ξ,ζ];apply hk;clear hk k) |refine wkt rfl ?_ |with_reducible refine wk0 ?_ |with_reducible refine ao ?_ |with_reducible refine aj ?_ wt_no |with_reducible refine ak ?_))
   refine aj ?_ (aj ?_ wt_no)
   ·refine cN rfl rfl rfl rfl (by exact kB) ?_;rintro v2 h2 st_h2 f2;obtain⟨v2_0,v2_1,v2_2,v2_3,v2_4,v2_5,v2_6,v2_7,v2_8,v2_9,v2_10,v2_11,v2_12,v2_13,rfl,f2⟩:=f2.sa;(repeat (first |(refine wo rfl (fun k hk=>?_);simp(disch:=omega) only[go_sem,ξ,ζ];apply hk;clear hk k) |refine wkt rfl ?_ |with_reducible refine wk0 ?_ |with_reducible refine ao ?_ |with_reducible refine aj ?_ wt_no |with_reducible refine ak ?_))
    refine rest _ _ _ _ [3,2] f1.to f2.to ?_
    simp(disch:=omega) only[go_sem,ξ,ζ,aJ,true_or]
   ·(repeat (first |(refine wo rfl (fun k hk=>?_);simp(disch:=omega) only[go_sem,ξ,ζ];apply hk;clear hk k) |refine wkt rfl ?_ |with_reducible refine wk0 ?_ |with_reducible refine ao ?_ |with_reducible refine aj ?_ wt_no |with_reducible refine ak ?_))
    refine cN rfl rfl rfl rfl (by exact kB) ?_;rintro v2 h2 st_h2 f2;obtain⟨v2_0,v2_1,v2_2,v2_3,v2_4,v2_5,v2_6,v2_7,v2_8,v2_9,v2_10,v2_11,v2_12,v2_13,rfl,f2⟩:=f2.sa;(repeat (first |(refine wo rfl (fun k hk=>?_);simp(disch:=omega) only[go_sem,ξ,ζ];apply hk;clear hk k) |refine wkt rfl ?_ |with_reducible refine wk0 ?_ |with_reducible refine ao ?_ |with_reducible refine aj ?_ wt_no |with_reducible refine ak ?_))
    refine rest _ _ _ _ [3,2] f1.to f2.to ?_
    simp(disch:=omega) only[go_sem,ξ,ζ,aJ,true_or]
  ·(repeat (first |(refine wo rfl (fun k hk=>?_);simp(disch:=omega) only[go_sem,ξ,ζ];apply hk;clear hk k) |refine wkt rfl ?_ |with_reducible refine wk0 ?_ |with_reducible refine ao ?_ |with_reducible refine aj ?_ wt_no |with_reducible refine ak ?_))
   refine cN rfl rfl rfl rfl (by exact kA) ?_;rintro v1 h1 st_h1 f1;obtain⟨v1_0,v1_1,v1_2,v1_3,v1_4,v1_5,v1_6,v1_7,v1_8,v1_9,v1_10,v1_11,v1_12,v1_13,rfl,f1⟩:=f1.sa;(repeat (first |(refine wo rfl (fun k hk=>?_);simp(disch:=omega) only[go_sem,ξ,ζ];apply hk;clear hk k) |refine wkt rfl ?_ |with_reducible refine wk0 ?_ |with_reducible refine ao ?_ |with_reducible refine aj ?_ wt_no |with_reducible refine ak ?_))
   refine cN rfl rfl rfl rfl (by exact kB) ?_;rintro v2 h2 st_h2 f2;obtain⟨v2_0,v2_1,v2_2,v2_3,v2_4,v2_5,v2_6,v2_7,v2_8,v2_9,v2_10,v2_11,v2_12,v2_13,rfl,f2⟩:=f2.sa;(repeat (first |(refine wo rfl (fun k hk=>?_);simp(disch:=omega) only[go_sem,ξ,ζ];apply hk;clear hk k) |refine wkt rfl ?_ |with_reducible refine wk0 ?_ |with_reducible refine ao ?_ |with_reducible refine aj ?_ wt_no |with_reducible refine ak ?_))
   refine rest _ _ _ _ [3,2] f1.to f2.to ?_
   simp(disch:=omega) only[go_sem,ξ,ζ,aJ,true_or]
theorem bJ {h0 h:PH} [Le h0 h] {r r':Value} {b1 b2:Value} {e1 e2:Int} {o:Out} (h1:r=.tuple #[b1,.int .i64 e1]) (h2:r'=.tuple #[b2,.int .i64 e2]) (hr:Ir h0 r o) (hr':Ir h0 r' o) (hx:∀x,o=.ok x→x.ok∧x.le 2048) (he:∀e,o=.error e→e≠0):
  Spec mach 16 #[b1,.int .i64 e1,b2,.int .i64 e2] h (fun r _=>r=.bool true) NP:=by
 subst h1
 subst h2
 cases o with
 | error e=>
  have ne:=he e rfl
  cases(hr:_=_)
  cases(hr':_=_)
  unfold zIv
  refine Spec.go [] Tryz.func16 rfl rfl (by kernel_rfl) fun C _=>?_
  try simp(maxSteps:=999999) (disch:=omega) only[go_sem,ξ,ζ]
  refine caN (by exact None03) ?_;rintro v1 h1 s1 rfl
  try simp(maxSteps:=999999) (disch:=omega) only[go_sem,ξ,ζ]
 | ok x=>
  obtain⟨ho,hl⟩:=hx x rfl
  obtain⟨u,e,c⟩:=hr
  obtain⟨u',e',c'⟩:=hr'
  cases e
  cases e'
  have c0:=c
  have c0':=c'
  obtain⟨_,_,_,_,_,_,_,_,_,_,_,_,_,_,rfl,_,_⟩:=c.fl
  obtain⟨_,_,_,_,_,_,_,_,_,_,_,_,_,_,rfl,_,_⟩:=c'.fl
  refine Spec.go [] Tryz.func16 rfl rfl (by kernel_rfl) fun C _=>?_
  try simp(maxSteps:=999999) (disch:=omega) only[go_sem,ξ,ζ]
  refine caN (by exact Ar c0 ho hl) ?_;rintro v1 h1 s1 rfl
  try simp(maxSteps:=999999) (disch:=omega) only[go_sem,ξ,ζ]
  refine caN (by exact RefSame c0 c0' ho hl) ?_;rintro v2 h2 s2 rfl
  try simp(maxSteps:=999999) (disch:=omega) only[go_sem,ξ,ζ]
open Go.RowKit
section
variable {F:Fence} {n:Nat} {P:Program} {ops:Array Oper} {Q:Exit→Act→World→Prop}
def stepOk (ops:Array Oper) (listed:Array Bool) (i:Nat):Bool:=Region.noSelect ops && closedB ops listed && takeOk ops listed i && (Region.ready .any ops listed).contains i && match ops[i]? with
 |some o=>o.guard.isNone
 |none=>false
theorem tkRd (i:Nat) {oi:Oper} {v:Value} {fuel:Nat} {listed:Array Bool} {a:Act} {w:World} (hro:Plain F ops) (hi:ops[i]?=some oi) (hc:stepOk ops listed i=true)
  (hQ:∀c a w,Q (.panic c) (a.put oi.dst v) w→Q (.panic c) a w) (hab:∀w',oi.about P w' a.eval=none) (hy:∀w',Below w.heap.size w w'→(execOp a.eval oi).run P w'=.ok (.value v) w')
  (h:wpAnyB F n P ops Q fuel (listed.setIfInBounds i true) (a.put oi.dst v) w):wpAnyB F n P ops Q (fuel+1) listed a w:=by
 unfold stepOk at hc
 rw[hi] at hc
 simp only[φ] at hc
 exact takeBd hro hi hc.1.1.1.1 hc.1.1.1.2 hc.1.1.2 hc.1.2 hQ ⟨.inl ⟨by simp only[Region.wanted,Option.isNone_iff_eq_none.1 hc.2],hy⟩,hab⟩ h
theorem tkR (i:Nat) {oi:Oper} {v:Value} {fuel:Nat} {listed:Array Bool} {a:Act} {w:World} (hro:F.round=none) (hi:ops[i]?=some oi) (hc:stepOk ops listed i=true)
  (hQ:∀c a w,Q (.panic c) (a.put oi.dst v) w→Q (.panic c) a w) (hab:∀w',oi.about P w' a.eval=none) (hy:∀w',Below w.heap.size w w'→(execOp a.eval oi).run P w'=.ok (.value v) w')
  (h:wpAnyB F n P ops Q fuel (listed.setIfInBounds i true) (a.put oi.dst v) w):wpAnyB F n P ops Q (fuel+1) listed a w:=tkRd i (.inl hro) hi hc hQ hab hy h
def RdP (P:Program) (ops:Array Oper) (o:Oper) (v:Value) (a:Act):Prop:=Region.wanted o (yielded ops a.tmps)=true∧(∀w',(execOp a.eval o).run P w'=.ok (.value v) w')∧∀w',o.about P w' a.eval=none
theorem RdP.f {o:Oper} {v:Value} {a:Act} (h:RdP P ops o v a) (w:World):RdF P ops o v a w:=⟨.inl ⟨h.1,fun w' _=>h.2.1 w'⟩,h.2.2⟩
theorem wpOpIn_putP {j:Nat} {oi oj:Oper} {v:Value} (hro:Plain F ops) (hj:ops[j]?=some oj) (hap:oi.apart ops oj=true)
  (hsi:∀cs b,oi.op≠.select cs b) (hsj:∀cs b,oj.op≠.select cs b)
  (hQ:∀c a w,Q (.panic c) (a.put oi.dst v) w→Q (.panic c) a w) {K:Act→World→Prop} {a:Act} {w:World}
  (hy:RdP P ops oi v a) (h:wpOpIn F n P ops Q j K (a.put oi.dst v) w):wpOpIn F n P ops Q j (fun a' w'=>RdP P ops oi v a'∧K (a'.put oi.dst v) w') a w:=by
 have hsem:=fun ρ=>hro.sem hj ρ
 obtain⟨h1,h2,h3⟩:=Oper.apart_spec hap
 have keep:∀(a:Act),RdP P ops oi v a→∀u,RdP P ops oi v (a.put oj.dst u):=fun a hy u=>
  ⟨(wanted_put oi a oj.dst u h3).trans hy.1,fun w'=>by rw[execOp_put oi hsi a oj.dst u h3];exact hy.2.1 w',fun w'=>by rw[about_put oi w' a oj.dst u h3];exact hy.2.2 w'⟩
 have keepD:∀d,RdP P ops oi v {a with defers:=d :: a.defers}:=fun d=>hy
 unfold wpOpIn at*
 simp only[hj] at*
 rw[wanted_put oj a oi.dst v h1,about_put oj w a oi.dst v h1] at h
 split
 ·rename_i hw
  simp only[hw,if_true] at h
  unfold Oper.wpIn at*
  rw[about_put oj w a oi.dst v h1] at h
  refine⟨h.1,?_⟩
  have h:=h.2
  rw[hsem,execOp_put oj hsj a oi.dst v h1] at h
  rw[hsem]
  generalize(execOp a.eval oj).run P w=r at*
  cases r with
  | ok x w'=>
   cases x<;>simp only[Oper.uponIn] at h ⊢
   case value u=>exact⟨keep a hy u,by rw[←Act.put_comm a v u h2];exact h⟩
   case skip=>exact⟨keep a hy _,by rw[←Act.put_comm a v undef h2];exact h⟩
   case defer d=>
    refine⟨keep _ (keepD d) _,?_⟩
    rw[←Act.put_comm _ v undef h2,←Act.put_defers]
    exact h
   case enter f args=>
    refine⟨h.1,CallsIn.mono h.2 fun e w'' he=>?_⟩
    cases e with
    |returned u=>exact⟨keep a hy u,by rw[←Act.put_comm a v u h2];exact he⟩
    |panicked c=>exact hQ _ _ _ he
    |outgrown=>exact he
   case row row args=>exact⟨h.1,RowsIn.mono h.2 fun u w'' he=>⟨keep a hy u,by rw[←Act.put_comm a v u h2];exact he⟩⟩
   case round l f tmps assign body=>
    refine⟨h.1,RoundIn.mono h.2 fun e w'' he=>?_⟩
    cases e with
    |returned u=>exact⟨keep a hy u,by rw[←Act.put_comm a v u h2];exact he⟩
    |panicked c=>exact hQ _ _ _ he
    |outgrown=>exact he
  | halt x w'=>
   cases x<;>simp only[Oper.uponIn] at h ⊢
   case panic u=>exact hQ _ _ _ h
 ·rename_i hw
  simp only[hw] at h
  exact⟨h.1,keep a hy _,by rw[←Act.put_comm a v undef h2];exact h.2⟩
def takeOkP (ops:Array Oper) (listed:Array Bool) (i:Nat):Bool:=
 (List.range ops.size).all fun j=>listed.getD j false || j == i || ((bF ops ops.size).getD j 0).testBit i || match ops[i]?,ops[j]? with
  |some oi,some oj=>oi.apart ops oj
  |_,_=>true
theorem wpAnyP_first {i:Nat} {oi:Oper} {v:Value} (hro:Plain F ops) (hi:ops[i]?=some oi) (hsel:∀(j:Nat) (o:Oper) cs b,ops[j]?=some o→o.op≠.select cs b)
    (hQ:∀c a w,Q (.panic c) (a.put oi.dst v) w→Q (.panic c) a w):
    ∀ (fuel:Nat) (listed:Array Bool) (a:Act) (w:World),listed.size=ops.size→(∀j,listed.getD j false=true→∀x,bE ops j x=true→listed.getD x false=true)→takeOkP ops listed i=true→
      i∈Region.ready .any ops listed→RdP P ops oi v a→
      wpAnyB F n P ops Q fuel (listed.setIfInBounds i true) (a.put oi.dst v) w→wpAnyB F n P ops Q (fuel+1) listed a w:=by
  intro fuel
  induction fuel with
  | zero=>
    intro listed a w hs hcl ht hr hy H
    refine⟨fun h=>(by rw[h] at hr;cases hr),fun j hj=>?_⟩
    by_cases hji:j=i
    · subst hji;exact(hy.f w).wpOpIn hro hi ⟨.inr (.inr (Below.refl _ _)),H⟩
    · have:=ready_mono hj hji
      rw[H.1] at this
      cases this
  | succ fuel ih=>
    intro listed a w hs hcl ht hr hy H
    refine⟨fun h=>(by rw[h] at hr;cases hr),fun j hj=>?_⟩
    by_cases hji:j=i
    · subst hji;exact(hy.f w).wpOpIn hro hi ⟨.inr (.inr (Below.refl _ _)),H⟩
    · have h1:=H.2 j (ready_mono hj hji)
      obtain⟨hjl,hj0,hjp⟩:=(iO hs).1 hj
      obtain⟨hil,hi0,hip⟩:=(iO hs).1 hr
      have hoj:ops[j]?=some ops[j]:=by simp[hjl]
      have hm:((bF ops ops.size).getD j 0).testBit i=false:=by
        cases hb:((bF ops ops.size).getD j 0).testBit i with
        |false=>rfl
        | true=>
          have:=po hcl (nX _ j i hjl hb) hjp
          rw[hi0] at this;cases this
      have hk:=qBd.1 ht j (List.mem_range.2 hjl)
      simp only[hj0,hm,hi,hoj,Bool.false_or,Bool.or_eq_true,beq_iff_eq,hji,false_or] at hk
      have hk:=hk.resolve_left (by decide)
      have h2:=wpOpIn_putP hro hoj hk (fun cs b=>hsel i oi cs b hi) (fun cs b=>hsel j _ cs b hoj) hQ hy h1
      refine wpOpIn_mono (fun a' w' k=>⟨k.2.1,ih (listed.setIfInBounds j true) a' w' (by simpa using hs) (fun y hy x hx=>?_) ?_ (ready_mono hr (Ne.symm hji)) k.1 ?_⟩) h2
      · by_cases e:j=y
        · subst e;exact getD_set_true (hjp x hx)
        · rw[getD_set_ne false e] at hy
          exact getD_set_true (hcl y hy x hx)
      · refine qBd.2 fun y hy=>?_
        have:=qBd.1 ht y hy
        by_cases e:j=y
        · subst e
          have:(listed.setIfInBounds j true).getD j false=true:=by simp[hs,hjl]
          simp[this]
        · rw[getD_set_ne false e];exact this
      · rw[Array.setIfInBounds_comm _ _ hji]
        exact k.2.2
def stepOkP (ops:Array Oper) (listed:Array Bool) (i:Nat):Bool:=Region.noSelect ops && closedB ops listed && takeOkP ops listed i && (Region.ready .any ops listed).contains i && match ops[i]? with
 |some o=>o.guard.isNone
 |none=>false
theorem tkPd (i:Nat) {oi:Oper} {v:Value} {fuel:Nat} {listed:Array Bool} {a:Act} {w:World} (hro:Plain F ops) (hi:ops[i]?=some oi) (hc:stepOkP ops listed i=true)
  (hQ:∀c a w,Q (.panic c) (a.put oi.dst v) w→Q (.panic c) a w) (hab:∀w',oi.about P w' a.eval=none) (hy:∀w',(execOp a.eval oi).run P w'=.ok (.value v) w')
  (h:wpAnyB F n P ops Q fuel (listed.setIfInBounds i true) (a.put oi.dst v) w):wpAnyB F n P ops Q (fuel+1) listed a w:=by
 unfold stepOkP at hc
 rw[hi] at hc
 simp only[φ] at hc
 have hc2:=hc.1.1.1.2
 unfold closedB at hc2
 rw[φ,beq_iff_eq,qBd] at hc2
 refine wpAnyP_first hro hi (Region.noSelect_spec hc.1.1.1.1) hQ fuel listed a w hc2.1 (fun j hj x hx=>?_) hc.1.1.2 (by simpa using hc.1.2) ⟨by simp only[Region.wanted,Option.isNone_iff_eq_none.1 hc.2],hy,hab⟩ h
 cases ho:ops[j]? with
 |none=>simp[bE,ho] at hx
 | some o=>
  have hlt:j < ops.size:=(Array.getElem?_eq_some_iff.1 ho).1
  have:=hc2.2 j (List.mem_range.2 hlt)
  rw[hj,ho] at this
  simp only[bE,ho] at hx
  obtain⟨e,he,hb⟩:=Array.any_eq_true'.1 hx
  simp only[φ,beq_iff_eq] at hb
  have h6:=Array.all_eq_true_iff_forall_mem.1 this e he
  rw[hb.1] at h6
  rw[←hb.2];simpa using h6
theorem tkP (i:Nat) {oi:Oper} {v:Value} {fuel:Nat} {listed:Array Bool} {a:Act} {w:World} (hro:F.round=none) (hi:ops[i]?=some oi) (hc:stepOkP ops listed i=true)
  (hQ:∀c a w,Q (.panic c) (a.put oi.dst v) w→Q (.panic c) a w) (hab:∀w',oi.about P w' a.eval=none) (hy:∀w',(execOp a.eval oi).run P w'=.ok (.value v) w')
  (h:wpAnyB F n P ops Q fuel (listed.setIfInBounds i true) (a.put oi.dst v) w):wpAnyB F n P ops Q (fuel+1) listed a w:=tkPd i (.inl hro) hi hc hQ hab hy h
theorem tpOne (i:Nat) {oi:Oper} {fuel:Nat} {listed:Array Bool} {a:Act} {w:World} (hi:ops[i]?=some oi) (hg:oi.guard=none) (hr:Region.ready .any ops listed=[i])
  (h:∀K:Act→World→Prop,(∀a' w',(clsAt ops i=2∨pinB ops i=true∨Below w.heap.size w w')∧wpAnyB F n P ops Q fuel (listed.setIfInBounds i true) a' w'→K a' w')→oi.wpIn F n P a w K Q):wpAnyB F n P ops Q (fuel+1) listed a w:=
 readyB hr (by simp) fun j hj=>by
  obtain rfl:=qBc.1 hj
  refine stepB hi fun K hK=>?_
  rw[if_pos (by simp only[Region.wanted,hg])]
  exact h K hK
def noDf (ops:Array Oper):Bool:=ops.toList.all fun o=>match o.op with |.defer _=>false |_=>true
theorem Plain.no (h:noDf ops=true):Plain F ops:=.inr fun i o c hi e=>by
 have:=qBd.1 h o (Array.mem_toList_iff.2 (Array.mem_of_getElem? hi))
 rw[e] at this;cases this
theorem tp2 (i j:Nat) {oi oj:Oper} {fuel:Nat} {listed:Array Bool} {a:Act} {w:World} (hi:ops[i]?=some oi) (hj:ops[j]?=some oj) (hg:oi.guard=none) (hg':oj.guard=none) (hr:Region.ready .any ops listed=[i,j])
  (h:∀K:Act→World→Prop,(∀a' w',(clsAt ops i=2∨pinB ops i=true∨Below w.heap.size w w')∧wpAnyB F n P ops Q fuel (listed.setIfInBounds i true) a' w'→K a' w')→oi.wpIn F n P a w K Q)
  (h':∀K:Act→World→Prop,(∀a' w',(clsAt ops j=2∨pinB ops j=true∨Below w.heap.size w w')∧wpAnyB F n P ops Q fuel (listed.setIfInBounds j true) a' w'→K a' w')→oj.wpIn F n P a w K Q):wpAnyB F n P ops Q (fuel+1) listed a w:=
 readyB hr (by simp) fun x hx=>by
  rcases List.mem_cons.1 hx with rfl |hx
  ·refine stepB hi fun K hK=>?_
   rw[if_pos (by simp only[Region.wanted,hg])]
   exact h K hK
  ·obtain rfl:=qBc.1 hx
   refine stepB hj fun K hK=>?_
   rw[if_pos (by simp only[Region.wanted,hg'])]
   exact h' K hK
end
theorem wpIn_store_box {F:Fence} {n:Nat} {M:Mach} {P:Program} (hP:M.P=P) {w:World} {o:Oper} {a:Act} {K:Act→World→Prop} {Q:Exit→Act→World→Prop} (b off:Nat) (vs:List Value) (cs:Array Value) {T Tb:TypeId} {x y:Operand} {t:Option Nat}
  (ho:o.op=.store T x y) (hx:a.eval x=.pointer (some ⟨b,off,none⟩)) (hy:(a.eval y).cells=vs.toArray) (ht:tk M.P T=some t) (hsz:bT t=vs.length) (hall:vs.all Value.oneCell'=true) (hb:w.heap[b]?=some (.cells cs Tb (0,0))) (hle:off+vs.length≤cs.size)
  (h:∀w',w'.heap[b]?=some (.cells (spl cs.toList off vs).toArray Tb (0,0))→w.grownBy w' (some b)→K (a.put o.dst undef) w'):o.wpIn F n P a w K Q:=by
 subst hP
 have hs:(sizeOf T).run M.P w=.ok (bT t) w:=by
  cases t with
  |none=>exact(wH ht w).2
  |some m=>exact(tT ht w).2
 obtain⟨w',h1,h2,h3⟩:=jd (P:=M.P) vs cs.toList off 0 w (by simpa using hb) (by simpa using hle) hall
 unfold Oper.wpIn
 refine⟨by simp[Oper.about,ho],?_⟩
 rw[Oper.semAt_plain F _ _ (by rw[ho];intro c hc';cases hc')]
 have hrun:(execOp a.eval o).run M.P w=.ok .skip w':=by
  simp only[execOp,ho,Instr.storeAt,Instr.sureAddr,hx,Sem.run_bind,Sem.run_pure,Result.andThen_ok,storeVar,hs,hsz,hy]
  simp[h1]
 rw[hrun]
 exact h w' (by simpa using h2) ⟨h3.os,h3.tape,h3.output,Nat.le_of_eq h3.size.symm,fun k _ hk=>h3.other k (fun e=>hk (by rw[e]))⟩
section
variable {W:World} {hp:PH} {WB off r n:Nat} {g cp:Nat→Nat} {M:Nat→Nat→RI}
theorem spl_len:∀(vs cs:List Value) (o:Nat),(spl cs o vs).length=cs.length:=by
 intro vs
 induction vs with
 |nil=>intro cs o;rfl
 |cons v vs ih=>intro cs o;rw[spl,ih];simp
end
inductive Pt where
 |fin (q:Rat)
 |inf (up:Bool)
def Pt.mul:Pt→Pt→Pt
 |.fin p,.fin q=>.fin (p*q)
 |.inf u,.fin q=>if q=0 then .fin 0 else .inf (u == decide (0 < q))
 |.fin p,.inf u=>if p=0 then .fin 0 else .inf (u == decide (0 < p))
 |.inf u,.inf w=>.inf (u == w)
def Pt.le (k:Nat):Pt→Prop
 |.fin q=>sz q≤k
 |.inf _=>True
def Pt.side:Pt→Int
 |.fin _=>0
 |.inf u=>if u=true then 1 else -1
@[reducible] def Pt.num:Pt→Option Rat
 |.fin q=>some q
 |.inf _=>none
def Ev (h:PH) (v:Value) (z:Pt):Prop:=∃b x y,v=.agg #[.bool b,x,y,.int .i64 z.side]∧En h b x y z.num
theorem Ev.to {h h':PH} {v:Value} {z:Pt} (r:Ev h v z) [Le h h']:Ev h' v z:=let ⟨a,b,c,h1,h2⟩:=r;⟨a,b,c,h1,h2.to⟩
theorem Ev.sa {h:PH} {v:Value} {z:Pt} (r:Ev h v z):∃b a1 m1 c1 a2 m2 c2,v=.agg #[.bool b,.slice a1 m1 c1,.slice a2 m2 c2,.int .i64 z.side]∧En h b (.slice a1 m1 c1) (.slice a2 m2 c2) z.num:=by
 obtain⟨b,x,y,rfl,h1⟩:=r
 obtain⟨_,_,_,_,_,_,rfl,rfl⟩:=h1.sl
 exact⟨_,_,_,_,_,_,_,rfl,h1⟩
theorem BJ {q:Rat}:sgn3 q= -1∨sgn3 q=0∨sgn3 q=1:=by unfold sgn3;grind
theorem sgn3_zero {q:Rat}:sgn3 q=0↔q=0:=by unfold sgn3;grind
theorem yB {q:Rat}:0 < sgn3 q↔0 < q:=by unfold sgn3;grind
theorem pc {h0 h:PH} [Le h0 h] {v w:Value} {x y:Pt} (hv:Ev h0 v x) (hw:Ev h0 w y) (lx:x.le (2^30)) (ly:y.le (2^30)):Spec mach 239 #[v,w] h (fun r h'=>Ev h' r (x.mul y)) NP:=by
 obtain⟨b,a1,m1,c1,a2,m2,c2,rfl,e1⟩:=hv.sa
 obtain⟨b',a1',m1',c1',a2',m2',c2',rfl,e2⟩:=hw.sa
 cases x with
 | fin p =>
  cases y with
  | fin q=>
   show Spec _ _ _ _ (fun r h'=>Ev h' r (.fin (p*q))) _
   dsimp only[Pt.side] at*
   have k1:=fun {h} [Le h0 h]=>dv (h:=h) e1.num
   have k2:=fun {h} [Le h0 h]=>dv (h:=h) e2.num
   by_cases hp:p=0∨q=0
   ·have e0:p*q=((0:Int):Rat):=by rcases hp with rfl |rfl<;>simp<;>rfl
    have hs:sgn3 p=0∨sgn3 q=0:=by rw[sgn3_zero,sgn3_zero];exact hp
    rw[e0]
    generalize sgn3 p=m at*
    generalize sgn3 q=n at*
    by_cases hm:m=0
    ·refine Spec.go [] Tryz.func239 rfl rfl (by kernel_rfl) fun C _=>?_
     simp(disch:=omega) only[go_sem,ξ,ζ,Int.toNat_one,Nat.zero_mul,qBm,Nat.zero_add,List.set_cons_zero,List.set_cons_succ]
     refine caN (by exact k1) ?_;rintro v1 h1 s1 rfl
     simp(disch:=omega) only[go_sem,ξ,ζ,Int.toNat_one,Nat.zero_mul,qBm,Nat.zero_add,List.set_cons_zero,List.set_cons_succ]
     refine caN (by exact k2) ?_;rintro v2 h2 s2 rfl
     simp(disch:=omega) only[go_sem,ξ,ζ,Int.toNat_one,Nat.zero_mul,qBm,Nat.zero_add,List.set_cons_zero,List.set_cons_succ]
     refine caN (by exact cB (n:=0) (by decide) (by decide)) ?_;rintro _ h3 _ f3;obtain⟨_,_,_,_,_,_,_,rfl,f3⟩:=f3.sa
     simp(disch:=omega) only[go_sem,ξ,ζ,Int.toNat_one,Nat.zero_mul,qBm,Nat.zero_add,List.set_cons_zero,List.set_cons_succ]
     exact⟨_,_,_,rfl,En.of f3⟩
    ·have hn:n=0:=hs.resolve_left hm
     refine Spec.go [] Tryz.func239 rfl rfl (by kernel_rfl) fun C _=>?_
     simp(disch:=omega) only[go_sem,ξ,ζ,Int.toNat_one,Nat.zero_mul,qBm,Nat.zero_add,List.set_cons_zero,List.set_cons_succ]
     refine caN (by exact k1) ?_;rintro v1 h1 s1 rfl
     simp(disch:=omega) only[go_sem,ξ,ζ,Int.toNat_one,Nat.zero_mul,qBm,Nat.zero_add,List.set_cons_zero,List.set_cons_succ]
     refine caN (by exact k2) ?_;rintro v2 h2 s2 rfl
     simp(disch:=omega) only[go_sem,ξ,ζ,Int.toNat_one,Nat.zero_mul,qBm,Nat.zero_add,List.set_cons_zero,List.set_cons_succ]
     refine caN (by exact cB (n:=0) (by decide) (by decide)) ?_;rintro _ h3 _ f3;obtain⟨_,_,_,_,_,_,_,rfl,f3⟩:=f3.sa
     simp(disch:=omega) only[go_sem,ξ,ζ,Int.toNat_one,Nat.zero_mul,qBm,Nat.zero_add,List.set_cons_zero,List.set_cons_succ]
     exact⟨_,_,_,rfl,En.of f3⟩
   ·have hm:¬sgn3 p=0:=by rw[sgn3_zero];exact fun k=>hp (.inl k)
    have hn:¬sgn3 q=0:=by rw[sgn3_zero];exact fun k=>hp (.inr k)
    generalize sgn3 p=m at*
    generalize sgn3 q=n at*
    refine Spec.go [] Tryz.func239 rfl rfl (by kernel_rfl) fun C _=>?_
    simp(disch:=omega) only[go_sem,ξ,ζ,Int.toNat_one,Nat.zero_mul,qBm,Nat.zero_add,List.set_cons_zero,List.set_cons_succ]
    refine caN (by exact k1) ?_;rintro v1 h1 s1 rfl
    simp(disch:=omega) only[go_sem,ξ,ζ,Int.toNat_one,Nat.zero_mul,qBm,Nat.zero_add,List.set_cons_zero,List.set_cons_succ]
    refine caN (by exact k2) ?_;rintro v2 h2 s2 rfl
    simp(disch:=omega) only[go_sem,ξ,ζ,Int.toNat_one,Nat.zero_mul,qBm,Nat.zero_add,List.set_cons_zero,List.set_cons_succ]
    refine caN (by exact wU (e1.num.to (h':=h2)) (e2.num.to (h':=h2)) (up36 lx) (up36 ly)) ?_;rintro _ h3 _ f3;obtain⟨_,_,_,_,_,_,_,rfl,f3⟩:=f3.sa
    simp(disch:=omega) only[go_sem,ξ,ζ,Int.toNat_one,Nat.zero_mul,qBm,Nat.zero_add,List.set_cons_zero,List.set_cons_succ]
    exact⟨_,_,_,rfl,En.of f3⟩
  | inf u =>
   have k1:=fun {h} [Le h0 h]=>dv (h:=h) e1.num
   dsimp only[Pt.mul]
   have hb:=BJ (q:=p)
   by_cases hp:p=0
   ·have hm:=sgn3_zero.2 hp
    rw[if_pos hp]
    rw[hm] at k1
    cases u<;>
    ·dsimp only[Pt.side] at*
     simp only[if_true,if_false,qAw,reduceIte]
     refine Spec.go [] Tryz.func239 rfl rfl (by kernel_rfl) fun C _=>?_
     simp(disch:=omega) only[go_sem,ξ,ζ,Int.toNat_one,Nat.zero_mul,qBm,Nat.zero_add,List.set_cons_zero,List.set_cons_succ]
     refine caN (by exact k1) ?_;rintro v1 h1 s1 rfl
     simp(disch:=omega) only[go_sem,ξ,ζ,Int.toNat_one,Nat.zero_mul,qBm,Nat.zero_add,List.set_cons_zero,List.set_cons_succ]
     refine caN (by exact cB (n:=0) (by decide) (by decide)) ?_;rintro _ h3 _ f3;obtain⟨_,_,_,_,_,_,_,rfl,f3⟩:=f3.sa
     simp(disch:=omega) only[go_sem,ξ,ζ,Int.toNat_one,Nat.zero_mul,qBm,Nat.zero_add,List.set_cons_zero,List.set_cons_succ]
     exact⟨_,_,_,rfl,En.of f3⟩
   ·have hm:sgn3 p≠0:=fun k=>hp (sgn3_zero.1 k)
    rw[if_neg hp]
    have hpos:=yB (q:=p)
    rcases hb with hb |hb |hb
    ·have h2:decide (0 < p)=false:=decide_eq_false (fun k=>by have:=hpos.2 k;omega)
     rw[h2]
     rw[hb] at k1
     cases u<;>
     ·dsimp only[Pt.side] at*
      simp only[if_true,if_false,qAw,reduceIte]
      refine Spec.go [] Tryz.func239 rfl rfl (by kernel_rfl) fun C _=>?_
      simp(disch:=omega) only[go_sem,ξ,ζ,Int.toNat_one,Nat.zero_mul,qBm,Nat.zero_add,List.set_cons_zero,List.set_cons_succ]
      refine caN (by exact k1) ?_;rintro v1 h1 s1 rfl
      simp(disch:=omega) only[go_sem,ξ,ζ,Int.toNat_one,Nat.zero_mul,qBm,Nat.zero_add,List.set_cons_zero,List.set_cons_succ]
      exact⟨_,_,_,rfl,En.nil _⟩
    ·exact(hm hb).elim
    ·have h2:decide (0 < p)=true:=decide_eq_true (hpos.1 (by omega))
     rw[h2]
     rw[hb] at k1
     cases u<;>
     ·dsimp only[Pt.side] at*
      simp only[if_true,if_false,qAw,reduceIte]
      refine Spec.go [] Tryz.func239 rfl rfl (by kernel_rfl) fun C _=>?_
      simp(disch:=omega) only[go_sem,ξ,ζ,Int.toNat_one,Nat.zero_mul,qBm,Nat.zero_add,List.set_cons_zero,List.set_cons_succ]
      refine caN (by exact k1) ?_;rintro v1 h1 s1 rfl
      simp(disch:=omega) only[go_sem,ξ,ζ,Int.toNat_one,Nat.zero_mul,qBm,Nat.zero_add,List.set_cons_zero,List.set_cons_succ]
      exact⟨_,_,_,rfl,En.nil _⟩
 | inf u =>
  cases y with
  | fin p =>
   have k1:=fun {h} [Le h0 h]=>dv (h:=h) e2.num
   dsimp only[Pt.mul]
   have hb:=BJ (q:=p)
   by_cases hp:p=0
   ·have hm:=sgn3_zero.2 hp
    rw[if_pos hp]
    rw[hm] at k1
    cases u<;>
    ·dsimp only[Pt.side] at*
     simp only[if_true,if_false,qAw,reduceIte]
     refine Spec.go [] Tryz.func239 rfl rfl (by kernel_rfl) fun C _=>?_
     simp(disch:=omega) only[go_sem,ξ,ζ,Int.toNat_one,Nat.zero_mul,qBm,Nat.zero_add,List.set_cons_zero,List.set_cons_succ]
     refine caN (by exact k1) ?_;rintro v1 h1 s1 rfl
     simp(disch:=omega) only[go_sem,ξ,ζ,Int.toNat_one,Nat.zero_mul,qBm,Nat.zero_add,List.set_cons_zero,List.set_cons_succ]
     refine caN (by exact cB (n:=0) (by decide) (by decide)) ?_;rintro _ h3 _ f3;obtain⟨_,_,_,_,_,_,_,rfl,f3⟩:=f3.sa
     simp(disch:=omega) only[go_sem,ξ,ζ,Int.toNat_one,Nat.zero_mul,qBm,Nat.zero_add,List.set_cons_zero,List.set_cons_succ]
     exact⟨_,_,_,rfl,En.of f3⟩
   ·have hm:sgn3 p≠0:=fun k=>hp (sgn3_zero.1 k)
    rw[if_neg hp]
    have hpos:=yB (q:=p)
    rcases hb with hb |hb |hb
    ·have h2:decide (0 < p)=false:=decide_eq_false (fun k=>by have:=hpos.2 k;omega)
     rw[h2]
     rw[hb] at k1
     cases u<;>
     ·dsimp only[Pt.side] at*
      simp only[if_true,if_false,qAw,reduceIte]
      refine Spec.go [] Tryz.func239 rfl rfl (by kernel_rfl) fun C _=>?_
      simp(disch:=omega) only[go_sem,ξ,ζ,Int.toNat_one,Nat.zero_mul,qBm,Nat.zero_add,List.set_cons_zero,List.set_cons_succ]
      refine caN (by exact k1) ?_;rintro v1 h1 s1 rfl
      simp(disch:=omega) only[go_sem,ξ,ζ,Int.toNat_one,Nat.zero_mul,qBm,Nat.zero_add,List.set_cons_zero,List.set_cons_succ]
      exact⟨_,_,_,rfl,En.nil _⟩
    ·exact(hm hb).elim
    ·have h2:decide (0 < p)=true:=decide_eq_true (hpos.1 (by omega))
     rw[h2]
     rw[hb] at k1
     cases u<;>
     ·dsimp only[Pt.side] at*
      simp only[if_true,if_false,qAw,reduceIte]
      refine Spec.go [] Tryz.func239 rfl rfl (by kernel_rfl) fun C _=>?_
      simp(disch:=omega) only[go_sem,ξ,ζ,Int.toNat_one,Nat.zero_mul,qBm,Nat.zero_add,List.set_cons_zero,List.set_cons_succ]
      refine caN (by exact k1) ?_;rintro v1 h1 s1 rfl
      simp(disch:=omega) only[go_sem,ξ,ζ,Int.toNat_one,Nat.zero_mul,qBm,Nat.zero_add,List.set_cons_zero,List.set_cons_succ]
      exact⟨_,_,_,rfl,En.nil _⟩
  | inf w=>
   dsimp only[Pt.mul]
   cases u<;>cases w<;>
   ·dsimp only[Pt.side] at*
    simp only[if_true,if_false,qAw,reduceIte]
    refine Spec.go [] Tryz.func239 rfl rfl (by kernel_rfl) fun C _=>?_
    simp(disch:=omega) only[go_sem,ξ,ζ,Int.toNat_one,Nat.zero_mul,qBm,Nat.zero_add,List.set_cons_zero,List.set_cons_succ]
    exact⟨_,_,_,rfl,En.nil _⟩
def lowP:Option Rat→Pt
 |none=>.inf false
 |some q=>.fin q
def highP:Option Rat→Pt
 |none=>.inf true
 |some q=>.fin q
theorem y8 {h0 h:PH} [Le h0 h] {v:Value} {a b:Option Rat} (hv:Sn h0 v (.i a b)):Spec mach 238 #[v] h (fun r h'=>∃b1 a1 m1 c1 a2 m2 c2 b2 a3 m3 c3 a4 m4 c4,r=.agg #[.bool b1,.slice a1 m1 c1,.slice a2 m2 c2,.int .i64 (lowP a).side,.bool b2,.slice a3 m3 c3,.slice a4 m4 c4,.int .i64 (highP b).side]∧
  Ev h' (.agg #[.bool b1,.slice a1 m1 c1,.slice a2 m2 c2,.int .i64 (lowP a).side]) (lowP a)∧Ev h' (.agg #[.bool b2,.slice a3 m3 c3,.slice a4 m4 c4,.int .i64 (highP b).side]) (highP b)) NP:=by
 obtain⟨b1,a1,m1,c1,a2,m2,c2,b2,a3,m3,c3,a4,m4,c4,rfl,h1,h2⟩:=hv.ie
 cases a<;>cases b<;>
 ·dsimp only[Option.isNone]
  refine Spec.go [] Tryz.func238 rfl rfl (by kernel_rfl) fun C _=>?_
  simp(disch:=omega) only[go_sem,ξ,ζ,Int.toNat_one,Nat.zero_mul,qBm,Nat.zero_add,List.set_cons_zero,List.set_cons_succ]
  exact⟨_,_,_,_,_,_,_,_,_,_,_,_,_,_,rfl,⟨_,_,_,rfl,h1.to⟩,⟨_,_,_,rfl,h2.to⟩⟩
end Go.Q
