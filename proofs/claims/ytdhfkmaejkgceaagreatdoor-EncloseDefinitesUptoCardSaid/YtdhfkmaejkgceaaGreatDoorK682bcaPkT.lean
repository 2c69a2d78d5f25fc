/-
  Matrices of intervals as they come in; what an elimination says of them; a matrix in the making, and what stands on it. Conditions: each theorem's own.
-/
import Derived.Test.YtdhfkmaejkgceaaGreatDoorK54d11aPkA
import Derived.Test.YtdhfkmaejkgceaaGreatDoorK1e5c19PkS
import Derived.Test.YtdhfkmaejkgceaaGreatDoorK84a2d9PkN
import Derived.Test.YtdhfkmaejkgceaaGreatDoorKe7d0bdPkM
import Derived.Test.YtdhfkmaejkgceaaGreatDoorK8620acPkG
import Derived.Test.YtdhfkmaejkgceaaGreatDoorKd5888dPkO
set_option linter.unusedVariables false
set_option linter.unusedSimpArgs false
open Nat renaming reduceBEq→ξ,reduceAdd→ζ,le_trans→χ,mul_le_mul_right→ψ,le_refl→η,mul_le_mul→qAk,mul_one→qAz,lt_or_ge→qBj
open List renaming length_append→qAp,take_of_length_le→qAr,all_eq_true→qBd
namespace Go.Q
open Go.Proofs Go.RowKit
set_option maxRecDepth 100000
set_option maxHeartbeats 4000000
theorem inAppend {F:Fence} {nF:Nat} {P:Program} {w:World} {o:Oper} {a:Act} {K:Act→World→Prop} {Q:Exit→Act→World→Prop} (s x:Operand) (t:TypeId)
  (ho:o.op=.call {callee:=.builtin .append,args:=#[s,x],argTypes:=#[t,t]})
  (base:Nat) (e:TypeId) (i:TypeInfo) (z:Value) (size bytes:Nat) (ht:P.underlying t=some (.slice e)) (hi:P.info? e=some i) (hz:i.zero=some z)
  (hsize:i.size=size) (hby:i.bytes=bytes) (hzs:z.cells.size=size) (hsz:0 < size)
  (v:Value) (n:Nat) (xs:List Value) (hs:a.eval s=v) (hown:w.ownsRow base e size v n xs)
  (ad:Addr) (m c:Nat) (news:List Value) (hx:a.eval x=.slice (some ad) m c) (hl:news.length=m*size) (hnews:∀(j:Nat) u,news[j]?=some u→w.cell? (ad.add j)=some u) (h1:∀u∈news,u.oneCell'=true)
  (h63:n+m≤maxLen) (hbytes:(n+m)*bytes≤140737488355328) (hbase:base≤w.heap.size)
  (h:∀v' w',w'.ownsRow base e size v' (n+m) (xs ++news)→w.grownBy w' v.ownBlock→(v'.ownBlock=v.ownBlock∨v'.ownBlock=some w.heap.size)→K (a.put o.dst v') w'):o.wpIn F nF P a w K Q:=by
 obtain⟨v',w',hr,h2,h3,h4,h5⟩:=run_append_own_at (P:=P) w base t o.type e i z size bytes ht hi hz hsize hby hzs hsz v n xs hown ad m c news hl hnews h1 h63 hbytes hbase
 unfold Oper.wpIn
 refine⟨by simp[Oper.about,ho,resolve,Target.leads,Sem.run_pure],?_⟩
 rw[Oper.semAt_plain F _ _ (by rw[ho];intro c hc';cases hc')]
 simp[execOp,ho,resolve,invoke,builtin,hs,hx,hr,Result.andThen]
 exact h v' w' h2 h3 h5
def Matv (h:PH) (v:Value) (L:List (List RI)):Prop:=∃(a:Option Addr) (c:Nat) (ra:Nat→Option Addr) (rc:Nat→Nat) (C:Nat→Nat→List Value),v=.slice a L.length c∧L.length≤2^30∧
 ∀i row,L[i]?=some row→row.length≤2^30∧∃blk off,a=some ⟨blk,off,none⟩∧h.at ⟨blk,off+i,none⟩=some (.slice (ra i) row.length (rc i))∧∀j x,row[j]?=some x→ivC (C i j)∧Iv h (.agg (C i j).toArray) x∧∃rb ro,ra i=some ⟨rb,ro,none⟩∧∀(t:Nat) u,(C i j)[t]?=some u→h.at ⟨rb,ro+j*8+t,none⟩=some u
theorem Matv.to {h h':PH} {v:Value} {L:List (List RI)} (r:Matv h v L) [k:Le h h']:Matv h' v L:=by
 obtain⟨a,c,ra,rc,C,e,hl,f⟩:=r
 refine⟨a,c,ra,rc,C,e,hl,fun i row hr=>?_⟩
 obtain⟨h1,blk,off,h2,h3,h4⟩:=f i row hr
 refine⟨h1,blk,off,h2,k.sub.at h3,fun j x hx=>?_⟩
 obtain⟨g1,g2,rb,ro,g3,g4⟩:=h4 j x hx
 exact⟨g1,g2.to,rb,ro,g3,fun t u hu=>k.sub.at (g4 t u hu)⟩
def zR0:RI:=⟨false,0,0,false,0,0,false,false⟩
theorem zR0_big:zR0.big=false:=by kernel_rfl
def atL (L:List (List RI)) (i j:Nat):RI:=((L[i]?.getD [])[j]?).getD zR0
theorem atL_eq {L:List (List RI)} {i j:Nat} {row:List RI} {x:RI} (h1:L[i]?=some row) (h2:row[j]?=some x):atL L i j=x:=by unfold atL;rw[h1];simp[h2]
def dfG (p:Int) (n:Nat):Nat→Nat→(Nat→Nat→RI)→Prop
 |0,_,_=>True
 |m+1,k,M=>sgN (M k k).set=2∧elB p k n M∧dfG p n m (k+1) (elM p k M)
open Classical in
noncomputable def dfO (p:Int) (L:List (List RI)):Bool×Int:=
 bif decide (6 < L.length) || decide (p < 0) || decide (128 < p) then (false,2) else bif L.any (fun r=>r.length != L.length) then (false,2) else bif L.any (fun r=>r.any RI.big) then (false,1) else bif L.any (fun r=>r.any (fun x=>x.set.void)) then (false,0) else (decide (dfG p L.length L.length 0 (atL L)),0)
def voidB (L:List (List RI)) (i j:Nat):Bool:=(L.take i).any (fun r=>r.any (fun x=>x.set.void)) || ((L[i]?.getD []).take j).any (fun x=>x.set.void)
theorem voidB_next {L:List (List RI)} {i j:Nat} {row:List RI} {x:RI} (h1:L[i]?=some row) (h2:row[j]?=some x):voidB L i (j+1)=(voidB L i j || x.set.void):=by
 unfold voidB
 rw[h1,Option.getD_some,List.take_succ_eq_append_getElem (List.getElem?_eq_some_iff.1 h2).1,(List.getElem?_eq_some_iff.1 h2).2]
 simp[Bool.or_assoc]
theorem voidB_row {L:List (List RI)} {i:Nat} {row:List RI} (h1:L[i]?=some row):voidB L (i+1) 0=voidB L i row.length:=by
 unfold voidB
 rw[h1,Option.getD_some,List.take_succ_eq_append_getElem (List.getElem?_eq_some_iff.1 h1).1,(List.getElem?_eq_some_iff.1 h1).2]
 simp
def nbB (L:List (List RI)) (i j:Nat):Prop:=∀a b row x,L[a]?=some row→row[b]?=some x→(a < i∨a=i∧b < j)→x.big=false
theorem nbB_next {L:List (List RI)} {i j:Nat} {row:List RI} {x:RI} (h:nbB L i j) (h1:L[i]?=some row) (h2:row[j]?=some x) (hx:x.big=false):nbB L i (j+1):=fun a b r y k1 k2 k3=>by
 rcases k3 with k |⟨rfl,k⟩
 ·exact h a b r y k1 k2 (.inl k)
 ·rcases qBj b j with g |g
  ·exact h _ b r y k1 k2 (.inr ⟨rfl,g⟩)
  ·obtain rfl:b=j:=by omega
   rw[h1] at k1;cases k1;rw[h2] at k2;cases k2;exact hx
theorem nbB_row {L:List (List RI)} {i:Nat} {row:List RI} (h:nbB L i row.length) (h1:L[i]?=some row):nbB L (i+1) 0:=fun a b r y k1 k2 k3=>by
 rcases qBj a i with g |g
 ·exact h a b r y k1 k2 (.inl g)
 ·obtain rfl:a=i:=by omega
  rw[h1] at k1;cases k1
  exact h _ b _ y h1 k2 (.inr ⟨rfl,(List.getElem?_eq_some_iff.1 k2).1⟩)
theorem nbB_any {L:List (List RI)} (h:nbB L L.length 0):L.any (fun r=>r.any RI.big)=false:=by
 rw[List.any_eq_false]
 intro r hr
 obtain⟨i,hi⟩:=List.mem_iff_getElem?.1 hr
 rw[Bool.not_eq_true,List.any_eq_false]
 intro x hx
 obtain⟨j,hj⟩:=List.mem_iff_getElem?.1 hx
 rw[h i j r x hi hj (.inl (List.getElem?_eq_some_iff.1 hi).1)]
 simp
theorem big_any {L:List (List RI)} {i j:Nat} {row:List RI} {x:RI} (h1:L[i]?=some row) (h2:row[j]?=some x) (hx:x.big=true):L.any (fun r=>r.any RI.big)=true:=
 List.any_eq_true.2 ⟨row,List.mem_of_getElem? h1,List.any_eq_true.2 ⟨x,List.mem_of_getElem? h2,hx⟩⟩
theorem voidB_all {L:List (List RI)}:voidB L L.length 0=L.any (fun r=>r.any (fun x=>x.set.void)):=by unfold voidB;simp
def NbM (n:Nat) (M:Nat→Nat→RI):Prop:=∀a b,a < n→b < n→(M a b).big=false
theorem NbM.el {p:Int} {k n:Nat} {M:Nat→Nat→RI} (h:NbM n M):NbM n (elM p k M):=fun a b ha hb=>by
 unfold elM
 split
 ·cases e:elE p (M k k) (M k a) (M k b) (M a b) with
  |error _=>exact h a b ha hb
  | ok z=>
   refine NS.ri_big ?_
   unfold elE at e
   cases e1:mulE p (M k a) (M k b) with
   |error _=>rw[e1] at e;cases e
   | ok x=>
    rw[e1] at e;dsimp only at e
    cases e2:divE p x.ri (M k k) with
    |error _=>rw[e2] at e;cases e
    |ok y=>rw[e2] at e;exact fin2_le e
 ·exact h a b ha hb
theorem nbm_of {L:List (List RI)} (h:nbB L L.length 0):NbM L.length (atL L):=fun a b _ _=>by
 unfold atL
 cases e1:L[a]? with
 |none=>exact zR0_big
 | some row=>
  rw[Option.getD_some]
  cases e2:row[b]? with
  |none=>exact zR0_big
  |some x=>exact h a b row x e1 e2 (.inl (List.getElem?_eq_some_iff.1 e1).1)
theorem below_kx {w A B:World} {n:Nat} {g:Nat→Nat} (h:Below w.heap.size w A) (k:Kx n g A B) (hg:∀i,i < n→w.heap.size≤g i):Below w.heap.size w B:=
 ⟨k.os.trans h.os,k.tape.trans h.tape,k.output.trans h.output,χ h.size k.size,fun b hb=>(k.block b (Nat.lt_of_lt_of_le hb h.size) (fun i hi e=>by have:=hg i hi;omega)).trans (h.block b hb)⟩
structure DfSt (w:World) (h:PH) (WB off n:Nat) (g cp:Nat→Nat) (M:Nat→Nat→RI) (W:World) (hp:PH):Prop where
 sub:Sub h hp
 new:New w.heap.size h hp
 below:Below w.heap.size w W
 m:Mx W hp WB off n n g cp M
 base:∀i,i < n→w.heap.size≤g i
section
variable {w:World} {h:PH} {WB off n:Nat} {g cp:Nat→Nat} {M:Nat→Nat→RI} {W:World} {hp:PH}
theorem DfSt.call (s:DfSt w h WB off n g cp M W hp) {h':PH} {W':World} (hb:Below W.heap.size W W') (hh:Has W' h') (hs:Sub hp h') (hn:New W.heap.size hp h'):DfSt w h WB off n g cp M W' h':=
 ⟨s.sub.trans hs,fun k hk=>(hn k hk).elim (s.new k) (fun q=>.inr (χ s.below.size q)),s.below.trans (hb.mono s.below.size),s.m.up hs hh hb hn,s.base⟩
theorem DfSt.el (s:DfSt w h WB off n g cp M W hp) {M':Nat→Nat→RI} {W':World} {h':PH} (e:ElS W hp WB off n g cp M' W' h'):DfSt w h WB off n g cp M' W' h':=
 ⟨s.sub.trans e.sub,fun k hk=>(e.new k hk).elim (s.new k) (fun q=>.inr (χ s.below.size q)),below_kx s.below e.kx s.base,e.m,s.base⟩
end
def Qi (h:PH) (cs:List Value) (x:RI):Prop:=Iv h (.agg cs.toArray) x
structure BlSt (w:World) (h:PH) (n WB:Nat) (T E:TypeId) (M:Nat→Nat→RI) (i:Nat) (row:List RI) (W:World) (hp:PH) (g cp:Nat→Nat) (v:Value):Prop where
 sub:Sub h hp
 new:New w.heap.size h hp
 below:Below w.heap.size w W
 m:Mx W hp WB 0 i n g cp M
 base:∀a,a < i→w.heap.size≤g a
 wb:∃cs:List Value,W.heap[WB]?=some (.cells cs.toArray T (0,0))∧cs.length=n∧(i < n→cs[i]?=some v)∧∀a,i < a→a < n→cs[a]?=some (.slice none 0 0)
 wbp:hp WB=none
 wbb:w.heap.size≤WB
 own:∃xs,W.ownsRow w.heap.size E 8 v row.length xs∧RowOf 8 (Qi hp) xs row
 ownp:∀b,v.ownBlock=some b→hp b=none∧b≠WB∧∀a,a < i→b≠g a
section
variable {w:World} {h:PH} {n WB:Nat} {T E:TypeId} {M:Nat→Nat→RI} {i:Nat} {row:List RI} {W:World} {hp:PH} {g cp:Nat→Nat} {v:Value}
theorem BlSt.call (s:BlSt w h n WB T E M i row W hp g cp v) {h':PH} {W':World} (hb:Below W.heap.size W W') (hh:Has W' h') (hs:Sub hp h') (hn:New W.heap.size hp h'):BlSt w h n WB T E M i row W' h' g cp v:=by
 have off:∀k,k < W.heap.size→hp k=none→h' k=none:=fun k hk e=>by
  cases e2:h' k with
  |none=>rfl
  | some cs=>
   rcases hn k (by rw[e2];simp) with g |g
   ·exact absurd e g
   ·omega
 obtain⟨cs,w1,w2,w3,w4⟩:=s.wb
 obtain⟨xs,h1,h2⟩:=s.own
 have hlt:∀b,v.ownBlock=some b→b < W.heap.size:=fun b e=>(h1.lt b e).2
 refine⟨s.sub.trans hs,fun k hk=>(hn k hk).elim (s.new k) (fun q=>.inr (χ s.below.size q)),s.below.trans (hb.mono s.below.size),s.m.up hs hh hb hn,s.base,⟨cs,(hb.block _ (Array.getElem?_eq_some_iff.1 w1).1).trans w1,w2,w3,w4⟩,off _ (Array.getElem?_eq_some_iff.1 w1).1 s.wbp,s.wbb,⟨xs,⟨h1.1,?_⟩,h2.mono fun cs x q=>?_⟩,fun b e=>⟨off b (hlt b e) (s.ownp b e).1,(s.ownp b e).2⟩⟩
 ·rcases h1.2 with hn |⟨g,cap,cur,rfl,hb0,hgg,rest⟩
  ·exact .inl hn
  ·exact .inr ⟨g,cap,cur,rfl,hb0,(hb.block g (Array.getElem?_eq_some_iff.1 hgg).1).trans hgg,rest⟩
 ·haveI:Le hp h':=⟨hs⟩
  exact Iv.to q
theorem BlSt.drew (s:BlSt w h n WB T E M i row W hp g cp v):BlSt w h n WB T E M i row W.drew hp g cp v:=s.call (gt W) (s.m.has.below (gt W)) (Sub.refl _) (fun _ h=>.inl h)
theorem BlSt.alloc (s:BlSt w h n WB T E M i row W hp g cp v) (o:Obj):BlSt w h n WB T E M i row (W.alloc o) hp g cp v:=
 have hb:Below W.heap.size W (W.alloc o):=(Below.refl _ W).alloc (η _) _
 s.call hb (s.m.has.below hb) (Sub.refl _) (fun _ h=>.inl h)
theorem BlSt.cell (s:BlSt w h n WB T E M i row W hp g cp v) (hi:i < n):W.cell? ⟨WB,i,none⟩=some v:=by
 obtain⟨cs,w1,w2,w3,w4⟩:=s.wb
 rw[bx_cell w1];simpa using w3 hi
theorem BlSt.next (s:BlSt w h n WB T E M i row W hp g cp v) (hi:i < n) (hr:row.length=n) (hM:∀j x,row[j]?=some x→M i j=x):∃g' cp',BlSt w h n WB T E M (i+1) [] W hp g' cp' (.slice none 0 0):=by
  obtain⟨xs,h1,h2⟩:=s.own
  obtain⟨cs,w1,w2,w3,w4⟩:=s.wb
  rcases h1.2 with⟨rfl,e⟩ |⟨b,cap,cur,rfl,hb0,hgg,hcap,hmax,hsz,htk⟩
  · omega
  obtain⟨p1,p2,p3⟩:=s.ownp b rfl
  rw[hr] at hcap htk
  have hgi:∀a,a < i→(if a=i then b else g a)=g a:=fun a ha=>if_neg (by omega)
  refine⟨fun a=>if a=i then b else g a,fun a=>if a=i then cap else cp a,s.sub,s.new,s.below,⟨s.m.has,fun a ha=>?_,fun a ha=>?_,fun a ha=>?_,fun a b' ha hb' e=>?_⟩,fun a ha=>?_,⟨cs,w1,w2,fun h'=>w4 _ (by omega) h',fun a h1 h2=>w4 a (by omega) h2⟩,s.wbp,s.wbb,⟨[],World.ownsRow_nil _ _ _ _,RowOf.nil⟩,fun b e=>by simp[Value.ownBlock] at e⟩
  · by_cases e:a=i
    · subst e
      rw[if_pos rfl,if_pos rfl,bx_cell w1,Nat.zero_add,←hr];simpa using w3 hi
    · rw[if_neg e,if_neg e];exact s.m.outer a (by omega)
  · by_cases e:a=i
    · subst e
      rw[if_pos rfl]
      refine⟨cur.toList,E,by simpa using hgg,by simp;rw[hsz];exact ψ _ hcap,fun j hj=>?_⟩
      obtain⟨x,hx⟩:∃x,row[j]?=some x:=⟨_,List.getElem?_eq_getElem (by omega)⟩
      rw[hM j x hx]
      have q:=h2.2 j x hx
      unfold Qi at q
      rw[←htk] at q
      have e:((cur.toList.take (n*8)).drop (j*8)).take 8=(cur.toList.drop (j*8)).take 8:=by
        rw[List.drop_take,List.take_take,Nat.min_eq_left (by omega)]
      rwa[e] at q
    · rw[if_neg e];exact s.m.row a (by omega)
  · by_cases e:a=i
    · subst e;rw[if_pos rfl];exact⟨p1,p2⟩
    · rw[if_neg e];exact s.m.priv a (by omega)
  · by_cases e1:a=i
    · by_cases e2:b'=i
      · omega
      · rw[if_pos e1,if_neg e2] at e;exact absurd e (p3 b' (by omega))
    · by_cases e2:b'=i
      · rw[if_neg e1,if_pos e2] at e;exact absurd e.symm (p3 a (by omega))
      · rw[if_neg e1,if_neg e2] at e;exact s.m.inj a b' (by omega) (by omega) e
  · by_cases e:a=i
    · rw[if_pos e];exact hb0
    · rw[if_neg e];exact s.base a (by omega)
theorem Mx.keptO {W:World} {hp:PH} {WB off r n:Nat} {g cp:Nat→Nat} {M:Nat→Nat→RI} (m:Mx W hp WB off r n g cp M) {W':World} {o:Option Nat} (hg:W.grownBy W' o) (ho:∀b,o=some b→hp b=none∧b≠WB∧∀i,i < r→b≠g i):Mx W' hp WB off r n g cp M:=by
 refine⟨m.has.kept hg (fun r e=>(ho r e).1),fun i hi=>hg.cell (a:=⟨WB,off+i,none⟩) (m.outer i hi) (fun e=>(ho _ e.symm).2.1 rfl),fun i hi=>?_,m.priv,m.inj⟩
 obtain⟨cs,T,k1,k2,k3⟩:=m.row i hi
 exact⟨cs,T,(hg.block _ (Array.getElem?_eq_some_iff.1 k1).1 (fun e=>(ho _ e.symm).2.2 i hi rfl)).trans k1,k2,k3⟩
theorem BlSt.wbAt (s:BlSt w h n WB T E M i row W hp g cp v) {w1:World} (hg:W.grownBy w1 v.ownBlock):∃ds:List Value,w1.heap[WB]?=some (.cells ds.toArray T (0,0))∧ds.length=n:=by
 obtain⟨ds,w1',w2,w3,w4⟩:=s.wb
 exact⟨ds,(hg.block WB (Array.getElem?_eq_some_iff.1 w1').1 (fun e=>(s.ownp _ e.symm).2.1 rfl)).trans w1',w2⟩
theorem BlSt.app (s:BlSt w h n WB T E M i row W hp g cp v) (hi:i < n) {w1 W3:World} {v':Value} {xs cs:List Value} {x:RI} (hR:RowOf 8 (Qi hp) xs row) (hxl:xs.length=row.length*8) (hcs:cs.length=8) (q:Qi hp cs x)
  (hown:w1.ownsRow w.heap.size E 8 v' (row.length+1) (xs ++cs)) (hg:W.grownBy w1 v.ownBlock) (hat:v'.ownBlock=v.ownBlock∨v'.ownBlock=some W.heap.size)
  (h3:∀ds,w1.heap[WB]?=some (.cells (ds:List Value).toArray T (0,0))→W3.heap[WB]?=some (.cells (ds.set i v').toArray T (0,0))) (hg3:w1.grownBy W3 (some WB)):BlSt w h n WB T E M i (row ++[x]) W3 hp g cp v':=by
 obtain⟨ds,w1',w2,w3,w4⟩:=s.wb
 have hWB:=(Array.getElem?_eq_some_iff.1 w1').1
 have m1:Mx w1 hp WB 0 i n g cp M:=s.m.keptO hg s.ownp
 have p0:∀b,v'.ownBlock=some b→hp b=none∧b≠WB∧∀a,a < i→b≠g a:=fun b e=>by
  rcases hat with k |k
  ·exact s.ownp b (by rw[←k];exact e)
  ·rw[k] at e
   obtain rfl:W.heap.size=b:=Option.some.inj e
   refine⟨?_,by omega,fun a ha=>?_⟩
   ·cases ex:hp W.heap.size with
    |none=>rfl
    |some cs'=>have:=s.m.has.lt ex;omega
   ·have:=s.m.lt ha;omega
 have hbW:=(hg.block WB hWB (fun e=>(s.ownp _ e.symm).2.1 rfl)).trans w1'
 have m3:Mx W3 hp WB 0 i n g cp M:=by
  refine⟨m1.has.kept hg3 (fun r e=>by cases e;exact s.wbp),fun a ha=>?_,fun a ha=>?_,m1.priv,m1.inj⟩
  ·have:=m1.outer a ha
   rw[bx_cell hbW] at this
   rw[bx_cell (h3 _ hbW),List.getElem?_toArray,List.getElem?_set_ne (by omega)]
   simpa using this
  ·obtain⟨cs,T,k1,k2,k3⟩:=m1.row a ha
   exact⟨cs,T,(hg3.block _ (Array.getElem?_eq_some_iff.1 k1).1 (fun e=>(m1.priv a ha).2 (Option.some.inj e))).trans k1,k2,k3⟩
 have hob:∀b,v.ownBlock=some b→w.heap.size≤b:=fun b e=>by
  obtain⟨ys,h1,_⟩:=s.own
  exact(h1.lt b e).1
 refine⟨s.sub,s.new,(s.below.grown hg s.below.size hob).grown hg3 (χ s.below.size hg.size) (fun k e=>by cases e;exact s.wbb),m3,s.base,⟨_,h3 _ hbW,by simpa using w2,fun _=>?_,fun a h1 h2=>?_⟩,s.wbp,s.wbb,⟨xs ++cs,?_,?_⟩,p0⟩
 ·rw[List.getElem?_set_self (by omega)]
 ·rw[List.getElem?_set_ne (by omega)];exact w4 a h1 h2
 ·rw[qAp,List.length_singleton]
  exact hown.kept hg3 (by
   cases e:v'.ownBlock with
   |none=>exact .inl rfl
   |some b=>exact .inr (fun e'=>(p0 b e).2.1 (Option.some.inj e')))
 ·have:=hR.app hcs q []
  rwa[List.append_nil,qAr (by omega)] at this
end
end Go.Q
namespace Go.Q
open Go.Proofs Go.RowKit
attribute [local go_sem] Oper.semAt_some
set_option maxRecDepth 100000
set_option maxHeartbeats 16000000
def dfR (p:Int) (L:List (List RI)) (r:Value) (_:PH):Prop:=r=.tuple #[.bool (dfO p L).1,.int .i64 (dfO p L).2]
def dfArg (p:Int) (L:List (List RI)):Prop:=6 < L.length∨p < 0∨128 < p
def dfLen (L:List (List RI)):Prop:=∀(i:Nat) (row:List RI),L[i]?=some row→row.length=L.length
theorem dfA {p:Int} {L:List (List RI)} (h:¬dfArg p L):(decide (6 < L.length) || decide (p < 0) || decide (128 < p))=false:=by
 unfold dfArg at h
 rw[Bool.or_eq_false_iff,Bool.or_eq_false_iff,decide_eq_false_iff_not,decide_eq_false_iff_not,decide_eq_false_iff_not];omega
theorem dfL {L:List (List RI)} (h:dfLen L):L.any (fun r=>r.length != L.length)=false:=List.any_eq_false.2 fun r hr=>by
 obtain⟨i,hi⟩:=List.mem_iff_getElem?.1 hr;simp[h i r hi]
theorem dfO_arg {p:Int} {L:List (List RI)} (h:dfArg p L):dfO p L=(false,2):=by
 unfold dfO
 rw[show(decide (6 < L.length) || decide (p < 0) || decide (128 < p))=true by unfold dfArg at h;rw[Bool.or_eq_true,Bool.or_eq_true,decide_eq_true_eq,decide_eq_true_eq,decide_eq_true_eq];omega,cond_true]
theorem dfO_len {p:Int} {L:List (List RI)} (h:¬dfArg p L) {i:Nat} {row:List RI} (hi:L[i]?=some row) (hl:row.length≠L.length):dfO p L=(false,2):=by
 unfold dfO
 rw[dfA h,cond_false,show L.any (fun r=>r.length != L.length)=true from List.any_eq_true.2 ⟨row,List.mem_of_getElem? hi,by simpa using hl⟩,cond_true]
theorem dfO_big {p:Int} {L:List (List RI)} (h:¬dfArg p L) (hl:dfLen L) (hb:L.any (fun r=>r.any RI.big)=true):dfO p L=(false,1):=by
 unfold dfO
 rw[dfA h,cond_false,dfL hl,cond_false,hb,cond_true]
theorem dfO_void {p:Int} {L:List (List RI)} (h:¬dfArg p L) (hl:dfLen L) (hb:nbB L L.length 0) (hv:voidB L L.length 0=true):dfO p L=(false,0):=by
 unfold dfO
 rw[dfA h,cond_false,dfL hl,cond_false,nbB_any hb,cond_false,←voidB_all,hv,cond_true]
theorem dfO_go {p:Int} {L:List (List RI)} (h:¬dfArg p L) (hl:dfLen L) (hb:nbB L L.length 0) (hv:voidB L L.length 0=false) {b:Bool} (hg:b=true↔dfG p L.length L.length 0 (atL L)):dfO p L=(b,0):=by
 unfold dfO
 rw[dfA h,cond_false,dfL hl,cond_false,nbB_any hb,cond_false,←voidB_all,hv,cond_false]
 refine Prod.ext ?_ rfl
 cases b with
 |true=>exact @decide_eq_true _ (Classical.propDecidable _) (hg.1 rfl)
 |false=>exact @decide_eq_false _ (Classical.propDecidable _) (fun k=>by cases hg.2 k)
theorem dfG_succ {p:Int} {n m k:Nat} {M:Nat→Nat→RI}:dfG p n (m+1) k M↔sgN (M k k).set=2∧elB p k n M∧dfG p n m (k+1) (elM p k M):=Iff.rfl
theorem Definite_spec {h0 h:PH} [l0:Le h0 h] {v:Value} {L:List (List RI)} {p:Int} (hv:Matv h0 v L):Spec mach 8 #[v,.int .i64 p] h (dfR p L) NP:=by
 refine⟨by kernel_rfl,fun w hw hg=>?_⟩
 refine(callsIn_wide (n:=8)).1 ?_
 show CallsIn Fence.wide 8 Tryz.prog _ _ w _
 have hdd:∀k:Nat,(Fence.wide.depth.isSome=true→1≤k):=fun k h=>by cases h
 have htk2:tk mach.P 42=some none:=by kernel_rfl
 have fn1:Fence.wide.fn 30:=trivial
 have fn2:Fence.wide.fn 31:=trivial
 have fn3:Fence.wide.fn 32:=trivial
 have fn4:Fence.wide.fn 33:=trivial
 have hmix:Tryz.prog.follows .mixedOrders=true:=by kernel_rfl
 obtain⟨a,c,ra,rc,C,rfl,hl,hc⟩:=hv
 obtain⟨n,hn⟩:∃n,L.length=n:=⟨_,rfl⟩
 have hgetR:∀i,i < n→∃row,L[i]?=some row:=fun i hi=>⟨_,List.getElem?_eq_getElem (by omega)⟩
 obtain⟨blk,off,hA⟩:∃blk off,∀i,i < n→a=some ⟨blk,off,none⟩:=by
  cases n with
  |zero=>exact⟨0,0,fun i hi=>by omega⟩
  | succ n=>
   obtain⟨row,hr⟩:=hgetR 0 (by omega)
   obtain⟨_,blk,off,e,_⟩:=hc 0 row hr
   exact⟨blk,off,fun _ _=>e⟩
 rw[hn] at hl ⊢
 refine callsIn_of_wp Tryz.func8 rfl trivial ?_ rfl
 simp only[Tryz.ntmps8,List.size_toArray,List.length_cons,List.length_nil,ζ,Nat.reduceSub,Array.replicate_succ,Array.replicate_zero,List.push_toArray,List.append_toArray,List.nil_append,List.cons_append]
 have nw:New w.heap.size h h:=fun _ h=>.inl h
 have hP:∀{W:World} {hp:PH} {v:Value},Below w.heap.size w W→Has W hp→Sub h hp→New w.heap.size h hp→v=.tuple #[.bool (dfO p L).1,.int .i64 (dfO p L).2]→Post w h (dfR p L) NP (.returned v) W:=fun k1 k2 k3 k4 k5=>⟨_,k1,k2,k3,k4,k5⟩
 by_cases hq:dfArg p L
 ·have:=dfO_arg hq
  unfold dfArg at hq
  by_cases h6:(6:Int) < n
  ·gi_wp2
   refine bodyPost_ret (results_tmp2 rfl _ _ _) rfl ?_
   exact hP (Below.refl _ _) hw (Sub.refl _) nw (by rw[this];rfl)
  by_cases hp0:p < 0
  ·gi_wp2
   refine bodyPost_ret (results_tmp2 rfl _ _ _) rfl ?_
   exact hP (Below.refl _ _) hw (Sub.refl _) nw (by rw[this];rfl)
  have hp1:128 < p:=by omega
  gi_wp2
  refine bodyPost_ret (results_tmp2 rfl _ _ _) rfl ?_
  exact hP (Below.refl _ _) hw (Sub.refl _) nw (by rw[this];rfl)
 have⟨h6,hp0,hp1⟩:¬(6:Int) < n∧¬p < 0∧¬128 < p:=by unfold dfArg at hq;omega
 gi_wp2
 gi_loopw [32] (fun q wr=>∃(I:Int) (i:Nat),(i:Int)=I∧i≤n∧q=.int .i64 I∧w=wr∧∀a row,a < i→L[a]?=some row→row.length=n) (fun q _=>n - (RowKit.intOf q).toNat)
 case atStart=>exact⟨0,0,rfl,by omega,rfl,rfl,fun _ _ h=>by omega⟩
 case round=>
  obtain⟨I,i,eI,hi1,rfl,rfl,hlen⟩:=hrel
  have hI1:0≤I:=by omega
  have eI2:I.toNat=i:=by omega
  by_cases h2:I < n
  ·obtain⟨row,hr⟩:=hgetR i (by omega)
   obtain⟨hr1,blk',off',ea,hat,_⟩:=hc i row hr
   have eA:=hA i (by omega)
   rw[eA] at ea
   cases ea
   subst eA
   have hat:=hw.cell (l0.sub.at hat)
   by_cases h3:row.length=n
   ·have h3i:(row.length:Int)=n:=by omega
    gi_wp2
    go_roundw
    case rel=>exact⟨_,i+1,by omega,by omega,rfl,trivial,fun a r ha hr'=>by
     rcases qBj a i with g |g
     ·exact hlen a r g hr'
     ·obtain rfl:a=i:=by omega
      rw[hr] at hr';cases hr';exact h3⟩
    case measure=>simp[RowKit.intOf];omega
   ·have h3i:(row.length:Int)≠n:=by omega
    gi_wp2
    refine bodyPost_ret (results_tmp2 rfl _ _ _) rfl ?_
    exact hP (Below.refl _ _) hw (Sub.refl _) nw (by rw[dfO_len hq hr (by omega)];rfl)
  ·obtain rfl:n=i:=by omega
   subst eI
   have hLen:dfLen L:=fun a r h=>by rw[hn];exact hlen a r (by have:=(List.getElem?_eq_some_iff.1 h).1;omega) h
   have hin:(Tryz.prog.info? 42).map (fun i=>(i.zero,i.size,i.bytes))=some (some (.slice none 0 0),1,24):=by kernel_rfl
   obtain⟨ti,hti,hti2⟩:=Option.map_eq_some_iff.1 hin
   simp only[Prod.mk.injEq] at hti2
   obtain⟨tz,ts,tb⟩:=hti2
   obtain⟨W1,hrun,⟨hx1,hx2⟩,hx3⟩:=run_make_full (P:=Tryz.prog) w w.heap.size 22 42 ti (.slice none 0 0) 1 (Tryz.underlying22) hti tz ts .i64 .i64 n (by rw[tb];omega) (by unfold maxLen;omega) (η _)
   rcases hx2 with⟨e,_⟩ |⟨g0,cap0,cur,e,hb0,hgg,hcap,hmax,hsz,htk⟩
   ·cases e
   cases e
   have hb1:Below w.heap.size w W1:=(Below.refl _ w).grown hx3 (η _) (fun k e=>by cases e)
   have hB0:BlSt w h n w.heap.size 42 41 (atL L) 0 [] W1 h (fun _=>0) (fun _=>0) (.slice none 0 0):=by
    have hcur:∀a,a < n→cur.toList[a]?=some (.slice none 0 0):=fun a ha=>by
     have e1:cur.toList=(madeCells (Value.slice none 0 0).cells (n*1)).toList:=by rw[←htk,qAr (by simpa using Nat.le_of_eq hsz)]
     rw[e1]
     have e2:(Value.slice none 0 0).cells=#[.slice none 0 0]:=rfl
     rw[e2]
     simp[madeCells,ha,Nat.mod_one]
    refine⟨Sub.refl _,nw,hb1,⟨hw.below hb1,fun a ha=>by omega,fun a ha=>by omega,fun a ha=>by omega,fun a b ha=>by omega⟩,fun a ha=>by omega,⟨cur.toList,by simpa using hgg,by simpa using hsz,fun h=>hcur 0 h,fun a _ h=>hcur a h⟩,?_,η _,⟨[],World.ownsRow_nil _ _ _ _,RowOf.nil⟩,fun b e=>by simp[Value.ownBlock] at e⟩
    cases e:h w.heap.size with
    |none=>rfl
    |some cs=>have:=hw.lt e;omega
   gi_wp2
   clear hrun
   gi_loopw [47,9] (fun q f W=>∃(I:Int) (i:Nat),(i:Int)=I∧i≤n∧q=.int .i64 I∧f=.bool (voidB L i 0)∧nbB L i 0∧∃hp g cp,BlSt w h n w.heap.size 42 41 (atL L) i [] W hp g cp (.slice none 0 0)) (fun q _ _=>n - (RowKit.intOf q).toNat)
   case atStart=>exact⟨0,0,rfl,by omega,rfl,by unfold voidB;simp,fun a b r y _ _ k=>by omega,h,_,_,hB0⟩
   case round=>
    clear hB0 hcap htk hsz hgg hx3 hb1
    obtain⟨I,i,eI,hi1,rfl,rfl,hnb,hp,g,cp,s⟩:=hrel
    have hI1:0≤I:=by omega
    have eI2:I.toNat=i:=by omega
    by_cases h2:I < n
    ·obtain⟨row,hr⟩:=hgetR i (by omega)
     obtain⟨hr1,blk',off',ea,hat,hrow⟩:=hc i row hr
     have eA:=hA i (by omega)
     rw[eA] at ea
     cases ea
     have hrn:=hlen i row (by omega) hr
     obtain⟨x0,hx0⟩:∃x,row[0]?=some x:=⟨_,List.getElem?_eq_getElem (by omega)⟩
     obtain⟨_,_,rb,ro,era,_⟩:=hrow 0 x0 hx0
     rw[era,hrn] at hat
     have hat:=s.m.has.cell (s.sub.at (l0.sub.at hat))
     subst eA
     gi_wp2
     gi_loopw [54,9] (fun q f W=>∃(J:Int) (j:Nat),(j:Int)=J∧j≤n∧q=.int .i64 J∧f=.bool (voidB L i j)∧nbB L i j∧∃hp g cp v,BlSt w h n w.heap.size 42 41 (atL L) i (row.take j) W hp g cp v) (fun q _ _=>n - (RowKit.intOf q).toNat)
     case atStart=>exact⟨0,0,rfl,by omega,rfl,rfl,hnb,hp,g,cp,_,by rw[List.take_zero];exact s⟩
     case round=>
      clear s hnb hat
      obtain⟨J,j,eJ,hj1,rfl,rfl,hnb,hp,g,cp,v,s⟩:=hrel
      have hJ1:0≤J:=by omega
      have eJ2:J.toNat=j:=by omega
      by_cases h3:J < n
      ·obtain⟨x,hx⟩:∃x,row[j]?=some x:=⟨_,List.getElem?_eq_getElem (by omega)⟩
       obtain⟨⟨b1,a1,m1,k1,a2,m2,k2,b2,a3,m3,k3,a4,m4,k4,e1,e2,eC⟩,ivx,rb',ro',era',hcell⟩:=hrow j x hx
       rw[era] at era'
       cases era'
       rw[eC] at hcell ivx
       haveI l1:Le h hp:=⟨s.sub⟩
       haveI l2:Le h0 hp:=Le.tr l0 l1
       obtain⟨q0,q1,q2,q3,q4,q5,q6,q7⟩:=c8 (w:=wr) (fun t u hu=>s.m.has.cell (l2.sub.at (hcell t u hu)))
       have iv:=ivx.to (h':=hp)
       have kE:=sI (h0:=hp) (h:=hp) iv
       unfold RI.bo at kE
       cases hbig:x.big with
       | true=>
        rw[hbig,cond_true] at kE
        gi_wp2_with (gi_at_call 30;refine(callsIn_wide.2 (kE.run _ (s.alloc _).m.has (hg.trans s.sub))).mono ?_;rintro e W2 hP2;obtain⟨_,h1,rfl,t1,t2,t3,t4,rfl⟩:=post_ret hP2;have s2:=(s.alloc _).call t1 t2 t3 t4;have hbx:=t1.block wr.heap.size (by simp);rw[World.alloc_heap_new] at hbx)
        refine bodyPost_ret (results_tmp2 rfl _ _ _) rfl ?_
        exact hP s2.below s2.m.has s2.sub s2.new (by rw[dfO_big hq hLen (big_any hr hx hbig)];rfl)
       | false=>
        rw[hbig,cond_false] at kE
        obtain⟨V,hV⟩:∃V,voidB L i j=V:=⟨_,rfl⟩
        obtain⟨U,hU⟩:∃U,x.set.void=U:=⟨_,rfl⟩
        rw[hU] at kE
        rw[hV]
        cases V
        all_goals
         gi_wp2_with (gi_at_call 30;refine(callsIn_wide.2 (kE.run _ (s.alloc _).m.has (hg.trans s.sub))).mono ?_;rintro e W2 hP2;obtain⟨_,h1,rfl,t1,t2,t3,t4,rfl⟩:=post_ret hP2;have s2:=(s.alloc _).call t1 t2 t3 t4;have hbx:=t1.block wr.heap.size (by simp);rw[World.alloc_heap_new] at hbx)
         have s3:=s2.drew
         have F:=fun w' (hb:Below W2.drew.heap.size W2.drew w')=>And.intro (cellB hb (s3.cell (by omega))) (let q:=fun t=>bx_cell hbx t;And.intro (cellB (w:=W2.drew) hb (q 0)) (And.intro (cellB (w:=W2.drew) hb (q 1)) (And.intro (cellB (w:=W2.drew) hb (q 2)) (And.intro (cellB (w:=W2.drew) hb (q 3)) (And.intro (cellB (w:=W2.drew) hb (q 4)) (And.intro (cellB (w:=W2.drew) hb (q 5)) (And.intro (cellB (w:=W2.drew) hb (q 6)) (cellB (w:=W2.drew) hb (q 7)))))))))
         refine wpIn_region_b hmix ?_
         refine tkP 0 rfl rfl (by kernel_rfl) (fun _ _ _ h=>h) (fun _=>rfl) (v:=?_) (fun w'=>?_) ?_
         rotate_left
         ·go_simp<;>rfl
         go_simp
         refine tkP 1 rfl rfl (by kernel_rfl) (fun _ _ _ h=>h) (fun _=>rfl) (v:=?_) (fun w'=>?_) ?_
         rotate_left
         ·go_simp<;>rfl
         go_simp
         refine tkP 2 rfl rfl (by kernel_rfl) (fun _ _ _ h=>h) (fun _=>rfl) (v:=?_) (fun w'=>?_) ?_
         rotate_left
         ·go_simp<;>rfl
         go_simp
         refine tkP 3 rfl rfl (by kernel_rfl) (fun _ _ _ h=>h) (fun _=>rfl) (v:=?_) (fun w'=>?_) ?_
         rotate_left
         ·go_simp<;>rfl
         go_simp
         refine tkP 4 rfl rfl (by kernel_rfl) (fun _ _ _ h=>h) (fun _=>rfl) (v:=?_) (fun w'=>?_) ?_
         rotate_left
         ·go_simp<;>rfl
         go_simp
         refine tkR 5 rfl rfl (by kernel_rfl) (fun _ _ _ h=>h) (fun _=>rfl) (v:=?_) (fun w' hb=>?_) ?_
         rotate_left
         ·obtain⟨f0,f1,f2,f3,f4,f5,f6,f7,f8⟩:=F w' hb
          go_simp<;>rfl
         go_simp
         refine tkR 6 rfl rfl (by kernel_rfl) (fun _ _ _ h=>h) (fun _=>rfl) (v:=?_) (fun w' hb=>?_) ?_
         rotate_left
         ·obtain⟨f0,f1,f2,f3,f4,f5,f6,f7,f8⟩:=F w' hb
          go_simp<;>rfl
         go_simp
         clear F
         haveI l3:Le hp h1:=⟨t3⟩
         have kO:=Own_spec (h0:=h1) (h:=h1) (iv.to (h':=h1))
         refine tpOne 7 rfl rfl (by kernel_rfl) fun K' hK'=>?_
         go_simp
         refine(callsIn_wide.2 (kO.run _ s3.m.has (hg.trans s3.sub))).mono ?_
         intro e W3 hP3;obtain⟨u,h2',rfl,r1,r2,r3,r4,r⟩:=post_ret hP3;clear hP3
         have s4:=s3.call r1 r2 r3 r4
         obtain⟨o2,o3,o4,o5,o6,o7,o9,o10,o11,o12,o13,o14,rfl,_,_⟩:=r.sa
         refine hK' _ _ ⟨.inr (.inr r1),?_⟩
         clear hK' K'
         go_simp
         refine tpOne 8 rfl rfl (by kernel_rfl) fun K' hK'=>?_
         go_simp
         refine hK' _ _ ⟨.inr (.inr ((Below.refl _ _).alloc (η _) _)),?_⟩
         clear hK' K'
         go_simp
         have s5:=s4.alloc (.cells [.bool x.n1,.slice o2 o3 o4,.slice o5 o6 o7,.bool x.n2,.slice o9 o10 o11,.slice o12 o13 o14,.bool x.l,.bool x.u].toArray 41)
         obtain⟨xs,hxs,hR⟩:=s5.own
         obtain⟨ei,ti2,z0,hU2,hi0,hz0,hz1,hz2,_,hy1,hy2⟩:=mkN_some (P:=Tryz.prog) (T:=42) (sz:=8) (by kernel_rfl)
         obtain rfl:ei=41:=by have:=hU2.symm.trans Tryz.underlying42;simpa using this
         refine tpOne 9 rfl rfl (by kernel_rfl) fun K' hK'=>?_
         refine inAppend _ _ 42 rfl w.heap.size 41 ti2 z0 8 ti2.bytes hU2 hi0 hz0 hz1 rfl hz2 (by decide) v _ xs rfl hxs ⟨W3.heap.size,0,none⟩ 1 1 [.bool x.n1,.slice o2 o3 o4,.slice o5 o6 o7,.bool x.n2,.slice o9 o10 o11,.slice o12 o13 o14,.bool x.l,.bool x.u] rfl rfl ?_ (by simp[Value.oneCell']) (by rw[List.length_take];unfold maxLen;omega) ?_ s5.below.size ?_
         ·exact fun t u hu=>new_cells rfl #[.bool x.n1,.slice o2 o3 o4,.slice o5 o6 o7,.bool x.n2,.slice o9 o10 o11,.slice o12 o13 o14,.bool x.l,.bool x.u] _ t u hu
         ·rw[List.length_take]
          exact χ (qAk (show min j row.length+1≤8 by omega) hy2) (by decide)
         intro v' w1 hown hgrow hat2
         refine hK' _ _ ⟨.inl rfl,?_⟩
         clear hK' K'
         go_simp
         refine tkP 10 rfl rfl (by kernel_rfl) (fun _ _ _ h=>h) (fun _=>rfl) (v:=?_) (fun w'=>?_) ?_
         rotate_left
         ·go_simp<;>rfl
         go_simp
         obtain⟨ds,hds,hdl⟩:=s5.wbAt hgrow
         obtain⟨g',cap',e'⟩:=ownsRow_succ hown
         refine tpOne 11 rfl rfl (by kernel_rfl) fun K' hK'=>?_
         refine wpIn_store_box (M:=mach) rfl w.heap.size i [v'] _ rfl (by go_simp<;>rfl) (by subst e';go_simp<;>rfl) htk2 rfl (by subst e';rfl) hds (by simp;omega) ?_
         intro W5 hW5 hg5
         have s6:=s5.app (by omega) hR hxs.1 rfl (x:=x) r hown hgrow hat2 (fun ds' h=>by rw[hds] at h;cases h;exact hW5) hg5
         refine hK' _ _ ⟨.inl rfl,?_⟩
         clear hK' K'
         go_simp
         refine doneB (by kernel_rfl) ?_ 0
         gi_wp2
         go_roundw
         case rel=>exact⟨_,j+1,by omega,by omega,rfl,by rw[voidB_next hr hx,hV,hU];simp,nbB_next hnb hr hx hbig,h2',g,cp,_,by rw[List.take_succ_eq_append_getElem (List.getElem?_eq_some_iff.1 hx).1,(List.getElem?_eq_some_iff.1 hx).2];exact s6⟩
         case measure=>simp[RowKit.intOf];omega
      ·gi_wp2
       obtain rfl:n=j:=by omega
       obtain⟨g',cp',s'⟩:=s.next (by omega) (by rw[List.length_take];omega) (fun j x h=>by
        rw[List.getElem?_take] at h
        split at h
        ·exact atL_eq hr h
        ·cases h)
       go_roundw
       case rel=>exact⟨_,i+1,by omega,by omega,rfl,by rw[voidB_row hr,hrn],nbB_row (by rw[hrn];exact hnb) hr,hp,g',cp',s'⟩
       case measure=>simp[RowKit.intOf];omega
    ·obtain rfl:n=i:=by omega
     have hnb':nbB L L.length 0:=by rw[hn];exact hnb
     cases hv:voidB L n 0 with
     | true=>
      gi_wp2
      refine bodyPost_ret (results_tmp2 rfl _ _ _) rfl ?_
      exact hP s.below s.m.has s.sub s.new (by rw[dfO_void hq hLen hnb' (by rw[hn];exact hv)];rfl)
     | false =>
      have hgo:=fun b=>dfO_go (b:=b) hq hLen hnb' (by rw[hn];exact hv)
      rw[hn] at hgo
      have hd0:DfSt w h w.heap.size 0 n g cp (atL L) wr hp:=⟨s.sub,s.new,s.below,s.m,s.base⟩
      have hnm:NbM n (atL L):=by rw[←hn];exact nbm_of hnb'
      clear s hnb
      gi_wp2
      gi_loopw [86] (fun q W=>∃(K:Int) (k:Nat),(k:Int)=K∧k≤n∧q=.int .i64 K∧∃M hp,DfSt w h w.heap.size 0 n g cp M W hp∧NbM n M∧(dfG p n n 0 (atL L)↔dfG p n (n - k) k M)) (fun q _=>n - (RowKit.intOf q).toNat)
      case atStart=>exact⟨0,0,rfl,by omega,rfl,_,hp,hd0,hnm,Iff.rfl⟩
      case round=>
       clear hd0 hnm
       obtain⟨K,k,eK,hk1,rfl,M,hp,s,hnm,hiff⟩:=hrel
       have hK1:0≤K:=by omega
       have eK2:K.toNat=k:=by omega
       by_cases h3:K < n
       ·have hkn:k < n:=by omega
        rw[show n - k=(n - (k+1))+1 by omega] at hiff
        rw[dfG_succ] at hiff
        obtain⟨b1,a1,m1,k1,a2,m2,k2,b2,a3,m3,k3,a4,m4,k4,e1,e2,dA,iA⟩:=s.m.entry hkn hkn
        have ou:=s.m.outer k hkn
        rw[Nat.zero_add] at ou
        obtain⟨q0,q1,q2,q3,q4,q5,q6,q7⟩:=c8 dA
        have kS:=xp (h0:=hp) (h:=hp) iA
        unfold sgO at kS
        rw[hnm k k hkn hkn,cond_false] at kS
        obtain⟨S,hS⟩:∃S,sgN (M k k).set=S:=⟨_,rfl⟩
        rw[hS] at kS hiff
        by_cases hS2:S=2
        ·subst hS2
         gi_wp2_with (first
          |(gi_at_call 32;refine(callsIn_wide.2 (kS.run _ s.m.has (hg.trans s.sub))).mono ?_;rintro e W2 hP2;obtain⟨_,h1,rfl,t1,t2,t3,t4,rfl⟩:=post_ret hP2;have s2:=s.call t1 t2 t3 t4;have kEl:=fun N=>elim_p (N:=N) (p:=p) (c:=n) s2.m (by omega) hkn (hg.trans s2.sub);rw[eK] at kEl)
          |(gi_at_call 33;refine(kEl _).mono ?_;rintro e W3 (⟨rfl,hB,h3',s3⟩ |⟨rfl,hB,h3',M',s3⟩)))
         ·go_roundw
          case rel=>exact⟨_,k+1,by omega,by omega,rfl,_,h3',s2.el s3,hnm.el,hiff.trans ⟨fun q=>q.2.2,fun q=>⟨trivial,hB,q⟩⟩⟩
          case measure=>simp[RowKit.intOf];omega
         ·refine bodyPost_ret (results_tmp2 rfl _ _ _) rfl ?_
          have s4:=s2.el s3
          exact hP s4.below s4.m.has s4.sub s4.new (by rw[hgo false (by rw[hiff];simp[hB])];rfl)
        ·gi_wp2_with (gi_at_call 32;refine(callsIn_wide.2 (kS.run _ s.m.has (hg.trans s.sub))).mono ?_;rintro e W2 hP2;obtain⟨_,h1,rfl,t1,t2,t3,t4,rfl⟩:=post_ret hP2;have s2:=s.call t1 t2 t3 t4)
         refine bodyPost_ret (results_tmp2 rfl _ _ _) rfl ?_
         exact hP s2.below s2.m.has s2.sub s2.new (by rw[hgo false (by rw[hiff];simp[hS2])];rfl)
       ·obtain rfl:n=k:=by omega
        rw[Nat.sub_self] at hiff
        gi_wp2
        refine bodyPost_ret (results_tmp2 rfl _ _ _) rfl ?_
        exact hP s.below s.m.has s.sub s.new (by rw[hgo true (by rw[hiff];simp[dfG])];rfl)
end Go.Q
namespace Go.Q
open Go.Proofs Go.RowKit
attribute [local go_sem] Oper.semAt_some
set_option maxRecDepth 100000
set_option maxHeartbeats 16000000
structure Rb (w:World) (h:PH) (n:Nat) (T E:TypeId) (M:Nat→Nat→RI) (i:Nat) (W:World) (hp:PH) (g cp:Nat→Nat) (v:Value):Prop where
 sub:Sub h hp
 new:New w.heap.size h hp
 below:Below w.heap.size w W
 has:Has W hp
 row:∀a,a < i→∃(cs:List Value) (T:TypeId),W.heap[g a]?=some (.cells cs.toArray T (0,0))∧n*8≤cs.length∧∀j,j < n→Iv hp (.agg ((cs.drop (j*8)).take 8).toArray) (M a j)
 priv:∀a,a < i→hp (g a)=none∧w.heap.size≤g a∧v.ownBlock≠some (g a)
 inj:∀a b,a < i→b < i→g a=g b→a=b
 own:∃ys,W.ownsRow w.heap.size T 1 v i ys∧∀a,a < i→ys[a]?=some (.slice (some ⟨g a,0,none⟩) n (cp a))
 ownp:∀b,v.ownBlock=some b→hp b=none
section
variable {w:World} {h:PH} {n:Nat} {T E:TypeId} {M:Nat→Nat→RI} {i:Nat} {W:World} {hp:PH} {g cp:Nat→Nat} {v:Value}
theorem Rb.lt (s:Rb w h n T E M i W hp g cp v) {a:Nat} (ha:a < i):g a < W.heap.size:=by
 obtain⟨cs,T,k,_⟩:=s.row a ha
 exact(Array.getElem?_eq_some_iff.1 k).1
theorem Rb.call (s:Rb w h n T E M i W hp g cp v) {h':PH} {W':World} (hb:Below W.heap.size W W') (hh:Has W' h') (hs:Sub hp h') (hn:New W.heap.size hp h'):Rb w h n T E M i W' h' g cp v:=by
 have off:∀k,k < W.heap.size→hp k=none→h' k=none:=fun k hk e=>by
  cases e2:h' k with
  |none=>rfl
  | some cs=>
   rcases hn k (by rw[e2];simp) with g |g
   ·exact absurd e g
   ·omega
 obtain⟨ys,h1,h2⟩:=s.own
 haveI:Le hp h':=⟨hs⟩
 refine⟨s.sub.trans hs,fun k hk=>(hn k hk).elim (s.new k) (fun q=>.inr (χ s.below.size q)),s.below.trans (hb.mono s.below.size),hh,fun a ha=>?_,fun a ha=>⟨off _ (s.lt ha) (s.priv a ha).1,(s.priv a ha).2⟩,s.inj,⟨ys,⟨h1.1,?_⟩,h2⟩,fun b e=>off b (h1.lt b e).2 (s.ownp b e)⟩
 ·obtain⟨cs,T,k1,k2,k3⟩:=s.row a ha
  exact⟨cs,T,(hb.block _ (s.lt ha)).trans k1,k2,fun j hj=>(k3 j hj).to⟩
 ·rcases h1.2 with hn |⟨g,cap,cur,rfl,hb0,hgg,rest⟩
  ·exact .inl hn
  ·exact .inr ⟨g,cap,cur,rfl,hb0,(hb.block g (Array.getElem?_eq_some_iff.1 hgg).1).trans hgg,rest⟩
theorem Rb.alloc (s:Rb w h n T E M i W hp g cp v) (o:Obj):Rb w h n T E M i (W.alloc o) hp g cp v:=
 have hb:Below W.heap.size W (W.alloc o):=(Below.refl _ W).alloc (η _) _
 s.call hb (s.has.below hb) (Sub.refl _) (fun _ h=>.inl h)
theorem Rb.app (s:Rb w h n T E M i W hp g cp v) {w1 W2 w3:World} {xs:List Value} {b cap:Nat} {v':Value} {ys:List Value} {f:Nat→List Value}
    (hrow:w1.ownsRow W.heap.size E 8 (.slice (some ⟨b,0,none⟩) n cap) n xs) (h1:Below W.heap.size W w1) (hx:∀j,j < n→(xs.drop (j*8)).take 8=f j∧Iv hp (.agg (f j).toArray) (M i j))
    (h2:Below w1.heap.size w1 W2) (hys:∀a,a < i→ys[a]?=some (.slice (some ⟨g a,0,none⟩) n (cp a))) (hyl:ys.length=i)
    (hown:w3.ownsRow w.heap.size T 1 v' (i+1) (ys ++[.slice (some ⟨b,0,none⟩) n cap])) (hg:W2.grownBy w3 v.ownBlock) (hat:v'.ownBlock=v.ownBlock∨v'.ownBlock=some W2.heap.size) (hn:0 < n):∃g' cp',Rb w h n T E M (i+1) w3 hp g' cp' v':=by
  rcases hrow.2 with⟨e,_⟩ |⟨b',cap',cur,e,hb0,hgg,hcap,hmax,hsz,htk⟩
  · cases e
  cases e
  have hb2:Below W.heap.size W W2:=h1.trans (h2.mono h1.size)
  have hbs:=(Array.getElem?_eq_some_iff.1 hgg).1
  obtain⟨zs,hz,_⟩:=s.own
  have hvlt:∀k,v.ownBlock=some k→w.heap.size≤k∧k < W.heap.size:=fun k e=>hz.lt k e
  have hblk:∀k,k < W2.heap.size→v.ownBlock≠some k→w3.heap[k]?=W2.heap[k]?:=fun k hk hne=>hg.block k hk (fun e=>hne e.symm)
  have hh2:Has W2 hp:=s.has.below hb2
  have hpn:∀k,W.heap.size≤k→hp k=none:=fun k hk=>by
    cases ex:hp k with
    |none=>rfl
    |some cs=>have:=s.has.lt ex;omega
  have h12:=h2.size
  have hgi:∀a,a < i→(if a=i then b else g a)=g a:=fun a ha=>if_neg (by omega)
  refine⟨fun a=>if a=i then b else g a,fun a=>if a=i then cap else cp a,s.sub,s.new,(s.below.trans (hb2.mono s.below.size)).grown hg (χ s.below.size hb2.size) (fun k e=>(hvlt k e).1),hh2.kept hg (fun r e=>s.ownp r e),fun a ha=>?_,fun a ha=>?_,fun a c ha hc e=>?_,⟨_,hown,fun a ha=>?_⟩,fun k e=>?_⟩
  · by_cases e:a=i
    · subst e
      rw[if_pos rfl]
      refine⟨cur.toList,E,?_,by simp;rw[hsz];exact ψ _ hcap,fun j hj=>?_⟩
      · rw[hblk b (by omega) (fun e=>by have:=(hvlt b e).2;omega),h2.block b hbs,hgg]
      · obtain⟨q1,q2⟩:=hx j hj
        rw[←htk] at q1
        have e:((cur.toList.take (n*8)).drop (j*8)).take 8=(cur.toList.drop (j*8)).take 8:=by
          rw[List.drop_take,List.take_take,Nat.min_eq_left (by omega)]
        rw[←e,q1];exact q2
    · rw[if_neg e]
      obtain⟨cs,T,k1,k2,k3⟩:=s.row a (by omega)
      have hl:=s.lt (a:=a) (by omega)
      exact⟨cs,T,(hblk _ (by have:=hb2.size;omega) (s.priv a (by omega)).2.2).trans ((hb2.block _ hl).trans k1),k2,k3⟩
  · have hv':∀k,k < W2.heap.size→v.ownBlock≠some k→v'.ownBlock≠some k:=fun k hk hne e=>by
      rcases hat with q |q
      · exact hne (q.symm.trans e)
      · rw[q] at e;cases e;omega
    by_cases e:a=i
    · rw[if_pos e]
      exact⟨hpn b hb0,by have:=s.below.size;omega,hv' b (by omega) (fun e=>by have:=(hvlt b e).2;omega)⟩
    · rw[if_neg e]
      have:=s.lt (a:=a) (by omega)
      exact⟨(s.priv a (by omega)).1,(s.priv a (by omega)).2.1,hv' _ (by have:=hb2.size;omega) (s.priv a (by omega)).2.2⟩
  · by_cases e1:a=i
    · by_cases e2:c=i
      · omega
      · rw[if_pos e1,if_neg e2] at e;have:=s.lt (a:=c) (by omega);omega
    · by_cases e2:c=i
      · rw[if_neg e1,if_pos e2] at e;have:=s.lt (a:=a) (by omega);omega
      · rw[if_neg e1,if_neg e2] at e;exact s.inj a c (by omega) (by omega) e
  · by_cases e:a=i
    · subst e
      rw[if_pos rfl,if_pos rfl,List.getElem?_append_right (by omega),hyl,Nat.sub_self];rfl
    · rw[if_neg e,if_neg e,List.getElem?_append_left (by omega)];exact hys a (by omega)
  · rcases hat with q |q
    · exact s.ownp k (q▸e)
    · rw[q] at e;cases e
      exact hpn _ hb2.size
theorem Rb.df (s:Rb w h n T E M n W hp g cp v):∃a cap b,v=.slice a n cap∧(0 < n→a=some ⟨b,0,none⟩)∧DfSt w h b 0 n g cp M W hp:=by
 obtain⟨ys,h1,h2⟩:=s.own
 rcases h1.2 with⟨rfl,e⟩ |⟨b,cap,cur,rfl,hb0,hgg,hcap,hmax,hsz,htk⟩
 ·subst e
  exact⟨none,0,0,rfl,fun h=>by omega,s.sub,s.new,s.below,⟨s.has,fun a ha=>by omega,s.row,fun a ha=>by omega,s.inj⟩,fun a ha=>by omega⟩
 refine⟨_,cap,b,rfl,fun _=>rfl,s.sub,s.new,s.below,⟨s.has,fun a ha=>?_,s.row,fun a ha=>⟨(s.priv a ha).1,fun e=>(s.priv a ha).2.2 (by simp[Value.ownBlock,e])⟩,s.inj⟩,fun a ha=>(s.priv a ha).2.1⟩
 rw[Nat.zero_add,h1.cellAt a (by omega)]
 exact h2 a ha
end
theorem flat8 {n:Nat} {f:Nat→List Value} (hf:∀j,j < n→(f j).length=8):∃xs:List Value,xs.length=n*8∧(∀j,j < n→(xs.drop (j*8)).take 8=f j)∧∀(t:Nat) u,xs[t]?=some u→t / 8 < n∧(f (t / 8))[t % 8]?=some u:=by
 refine⟨(List.range (n*8)).map fun k=>(f (k / 8))[k % 8]?.getD undef,by simp,fun j hj=>?_,fun t u hu=>?_⟩
 ·refine List.ext_getElem? fun t=>?_
  rw[List.getElem?_take]
  by_cases ht:t < 8
  ·rw[if_pos ht,List.getElem?_drop,List.getElem?_map,List.getElem?_range (by omega),Option.map_some,show(j*8+t) / 8=j by omega,show(j*8+t) % 8=t by omega,List.getElem?_eq_getElem (by rw[hf j hj];exact ht),Option.getD_some]
  ·rw[if_neg ht,List.getElem?_eq_none (by rw[hf j hj];omega)]
 ·have ht:t < n*8:=by have:=(List.getElem?_eq_some_iff.1 hu).1;simpa using this
  rw[List.getElem?_map,List.getElem?_range ht,Option.map_some] at hu
  have h8:t / 8 < n:=by omega
  refine⟨h8,?_⟩
  rw[List.getElem?_eq_getElem (by rw[hf _ h8];omega),Option.getD_some] at hu
  rw[List.getElem?_eq_getElem (by rw[hf _ h8];omega)]
  exact hu
theorem RDefinite_spec {h0 h:PH} [l0:Le h0 h] {v:Value} {L:List (List RI)} {p:Int} (hv:Matv h0 v L):Spec mach 9 #[v,.int .i64 p] h (dfR p L) NP:=by
 refine⟨by kernel_rfl,fun w hw hg=>?_⟩
 refine(callsIn_wide (n:=8)).1 ?_
 show CallsIn Fence.wide 8 Tryz.prog _ _ w _
 have hdd:∀k:Nat,(Fence.wide.depth.isSome=true→1≤k):=fun k h=>by cases h
 have fn1:Fence.wide.fn 34:=trivial
 have fn2:Fence.wide.fn 35:=trivial
 have fn3:Fence.wide.fn 36:=trivial
 have fn4:Fence.wide.fn 37:=trivial
 have hmix:Tryz.prog.follows .mixedOrders=true:=by kernel_rfl
 obtain⟨a,c,ra,rc,C,rfl,hl,hc⟩:=hv
 obtain⟨n,hn⟩:∃n,L.length=n:=⟨_,rfl⟩
 have hgetR:∀i,i < n→∃row,L[i]?=some row:=fun i hi=>⟨_,List.getElem?_eq_getElem (by omega)⟩
 obtain⟨blk,off,hA⟩:∃blk off,∀i,i < n→a=some ⟨blk,off,none⟩:=by
  cases n with
  |zero=>exact⟨0,0,fun i hi=>by omega⟩
  | succ n=>
   obtain⟨row,hr⟩:=hgetR 0 (by omega)
   obtain⟨_,blk,off,e,_⟩:=hc 0 row hr
   exact⟨blk,off,fun _ _=>e⟩
 rw[hn] at hl ⊢
 refine callsIn_of_wp Tryz.func9 rfl trivial ?_ rfl
 simp only[Tryz.ntmps9,List.size_toArray,List.length_cons,List.length_nil,ζ,Nat.reduceSub,Array.replicate_succ,Array.replicate_zero,List.push_toArray,List.append_toArray,List.nil_append,List.cons_append]
 have nw:New w.heap.size h h:=fun _ h=>.inl h
 have hP:∀{W:World} {hp:PH} {v:Value},Below w.heap.size w W→Has W hp→Sub h hp→New w.heap.size h hp→v=.tuple #[.bool (dfO p L).1,.int .i64 (dfO p L).2]→Post w h (dfR p L) NP (.returned v) W:=fun k1 k2 k3 k4 k5=>⟨_,k1,k2,k3,k4,k5⟩
 by_cases hq:dfArg p L
 ·have:=dfO_arg hq
  unfold dfArg at hq
  by_cases h6:(6:Int) < n
  ·gi_wp2
   refine bodyPost_ret (results_tmp2 rfl _ _ _) rfl ?_
   exact hP (Below.refl _ _) hw (Sub.refl _) nw (by rw[this];rfl)
  by_cases hp0:p < 0
  ·gi_wp2
   refine bodyPost_ret (results_tmp2 rfl _ _ _) rfl ?_
   exact hP (Below.refl _ _) hw (Sub.refl _) nw (by rw[this];rfl)
  have hp1:128 < p:=by omega
  gi_wp2
  refine bodyPost_ret (results_tmp2 rfl _ _ _) rfl ?_
  exact hP (Below.refl _ _) hw (Sub.refl _) nw (by rw[this];rfl)
 have⟨h6,hp0,hp1⟩:¬(6:Int) < n∧¬p < 0∧¬128 < p:=by unfold dfArg at hq;omega
 gi_wp2
 gi_loopw [28] (fun q wr=>∃(I:Int) (i:Nat),(i:Int)=I∧i≤n∧q=.int .i64 I∧w=wr∧∀a row,a < i→L[a]?=some row→row.length=n) (fun q _=>n - (RowKit.intOf q).toNat)
 case atStart=>exact⟨0,0,rfl,by omega,rfl,rfl,fun _ _ h=>by omega⟩
 case round=>
  obtain⟨I,i,eI,hi1,rfl,rfl,hlen⟩:=hrel
  have hI1:0≤I:=by omega
  have eI2:I.toNat=i:=by omega
  by_cases h2:I < n
  ·obtain⟨row,hr⟩:=hgetR i (by omega)
   obtain⟨hr1,blk',off',ea,hat,_⟩:=hc i row hr
   have eA:=hA i (by omega)
   rw[eA] at ea
   cases ea
   subst eA
   have hat:=hw.cell (l0.sub.at hat)
   by_cases h3:row.length=n
   ·have h3i:(row.length:Int)=n:=by omega
    gi_wp2
    go_roundw
    case rel=>exact⟨_,i+1,by omega,by omega,rfl,trivial,fun a r ha hr'=>by
     rcases qBj a i with g |g
     ·exact hlen a r g hr'
     ·obtain rfl:a=i:=by omega
      rw[hr] at hr';cases hr';exact h3⟩
    case measure=>simp[RowKit.intOf];omega
   ·have h3i:(row.length:Int)≠n:=by omega
    gi_wp2
    refine bodyPost_ret (results_tmp2 rfl _ _ _) rfl ?_
    exact hP (Below.refl _ _) hw (Sub.refl _) nw (by rw[dfO_len hq hr (by omega)];rfl)
  ·obtain rfl:n=i:=by omega
   subst eI
   have hLen:dfLen L:=fun a r h=>by rw[hn];exact hlen a r (by have:=(List.getElem?_eq_some_iff.1 h).1;omega) h
   have hB0:Rb w h n 42 41 (atL L) 0 w h (fun _=>0) (fun _=>0) (.slice none 0 0):=
    ⟨Sub.refl _,nw,Below.refl _ _,hw,fun a ha=>by omega,fun a ha=>by omega,fun a b ha=>by omega,⟨[],World.ownsRow_nil _ _ _ _,fun a ha=>by omega⟩,fun b e=>by simp[Value.ownBlock] at e⟩
   gi_wp2
   gi_loopw [40,8,9] (fun q v f W=>∃(I:Int) (i:Nat),(i:Int)=I∧i≤n∧q=.int .i64 I∧f=.bool (voidB L i 0)∧nbB L i 0∧∃hp g cp,Rb w h n 42 41 (atL L) i W hp g cp v) (fun q _ _ _=>n - (RowKit.intOf q).toNat)
   case atStart=>exact⟨0,0,rfl,by omega,rfl,by unfold voidB;simp,fun a b r y _ _ k=>by omega,h,_,_,hB0⟩
   case round=>
    clear hB0
    obtain⟨I,i,eI,hi1,rfl,rfl,hnb,hp,g,cp,s⟩:=hrel
    have hI1:0≤I:=by omega
    have eI2:I.toNat=i:=by omega
    by_cases h2:I < n
    ·obtain⟨row,hr⟩:=hgetR i (by omega)
     obtain⟨hr1,blk',off',ea,hat,hrow⟩:=hc i row hr
     have eA:=hA i (by omega)
     rw[eA] at ea
     cases ea
     have hrn:=hlen i row (by omega) hr
     obtain⟨x0,hx0⟩:∃x,row[0]?=some x:=⟨_,List.getElem?_eq_getElem (by omega)⟩
     obtain⟨_,_,rb,ro,era,_⟩:=hrow 0 x0 hx0
     rw[era,hrn] at hat
     have hat:=s.has.cell (s.sub.at (l0.sub.at hat))
     subst eA
     gi_wp2
     gi_loopw [46,9] (fun q f W=>∃(J:Int) (j:Nat),(j:Int)=J∧j≤n∧q=.int .i64 J∧f=.bool (voidB L i j)∧nbB L i j∧∃hp g cp,Rb w h n 42 41 (atL L) i W hp g cp u8) (fun q _ _=>n - (RowKit.intOf q).toNat)
     case atStart=>exact⟨0,0,rfl,by omega,rfl,rfl,hnb,hp,g,cp,s⟩
     case round=>
      clear s hnb hat
      obtain⟨J,j,eJ,hj1,rfl,rfl,hnb,hp,g,cp,s⟩:=hrel
      have hJ1:0≤J:=by omega
      have eJ2:J.toNat=j:=by omega
      haveI l1:Le h hp:=⟨s.sub⟩
      haveI l2:Le h0 hp:=Le.tr l0 l1
      by_cases h3:J < n
      ·obtain⟨x,hx⟩:∃x,row[j]?=some x:=⟨_,List.getElem?_eq_getElem (by omega)⟩
       obtain⟨⟨b1,a1,m1,k1,a2,m2,k2,b2,a3,m3,k3,a4,m4,k4,e1,e2,eC⟩,ivx,rb',ro',era',hcell⟩:=hrow j x hx
       rw[era] at era'
       cases era'
       rw[eC] at hcell ivx
       obtain⟨q0,q1,q2,q3,q4,q5,q6,q7⟩:=c8 (w:=wr) (fun t u hu=>s.has.cell (l2.sub.at (hcell t u hu)))
       have iv:=ivx.to (h':=hp)
       have kE:=eZ (h0:=hp) (h:=hp) iv
       cases hbig:x.big with
       | true=>
        rw[hbig] at kE
        gi_wp2_with (gi_at_call 34;refine(callsIn_wide.2 (kE.run _ (s.alloc _).has (hg.trans s.sub))).mono ?_;rintro e W2 hP2;obtain⟨_,h1,rfl,t1,t2,t3,t4,rfl⟩:=post_ret hP2;have s2:=(s.alloc _).call t1 t2 t3 t4)
        refine bodyPost_ret (results_tmp2 rfl _ _ _) rfl ?_
        exact hP s2.below s2.has s2.sub s2.new (by rw[dfO_big hq hLen (big_any hr hx hbig)];rfl)
       | false=>
        rw[hbig] at kE
        cases hV:voidB L i j with
        | true=>
         gi_wp2_with (gi_at_call 34;refine(callsIn_wide.2 (kE.run _ (s.alloc _).has (hg.trans s.sub))).mono ?_;rintro e W2 hP2;obtain⟨_,h1,rfl,t1,t2,t3,t4,rfl⟩:=post_ret hP2;have s2:=(s.alloc _).call t1 t2 t3 t4)
         go_roundw
         case rel=>exact⟨_,j+1,by omega,by omega,rfl,by rw[voidB_next hr hx,hV];rfl,nbB_next hnb hr hx hbig,h1,g,cp,s2⟩
         case measure=>simp[RowKit.intOf];omega
        | false=>
         gi_wp2_with (first
          |(gi_at_call 34;refine(callsIn_wide.2 (kE.run _ (s.alloc _).has (hg.trans s.sub))).mono ?_;rintro e W2 hP2;obtain⟨_,h1,rfl,t1,t2,t3,t4,rfl⟩:=post_ret hP2;have s2:=(s.alloc _).call t1 t2 t3 t4;have hbx:=t1.block wr.heap.size (by simp);rw[World.alloc_heap_new] at hbx;have w0:=bx_cell hbx 0;have w1:=bx_cell hbx 1;have w2:=bx_cell hbx 2;have w3:=bx_cell hbx 3;have w4:=bx_cell hbx 4;have w5:=bx_cell hbx 5;have w6:=bx_cell hbx 6;have w7:=bx_cell hbx 7;simp only[List.getElem?_toArray,List.getElem?_cons_zero,List.getElem?_cons_succ] at w0 w1 w2 w3 w4 w5 w6 w7;haveI l3:Le hp h1:=⟨t3⟩;have kO:=RefOf (h0:=h1) (h:=h1) (iv.to (h':=h1)) hbig)
          |(gi_at_call 35;refine(callsIn_wide.2 (kO.run _ s2.has (hg.trans s2.sub))).mono ?_;rintro e W3 hP3;obtain⟨_,h2',rfl,r1,r2,r3,r4,r⟩:=post_ret hP3;have s3:=s2.call r1 r2 r3 r4;obtain⟨_,_,_,_,_,_,_,_,_,_,_,_,_,_,rfl,_,_⟩:=r.sa))
         show(_:Act→World→Prop) (Act.put _ _ (Value.bool x.set.void)) _
         gi_wp2
         go_roundw
         case rel=>exact⟨_,j+1,by omega,by omega,rfl,by rw[voidB_next hr hx,hV];rfl,nbB_next hnb hr hx hbig,h2',g,cp,s3⟩
         case measure=>simp[RowKit.intOf];omega
      ·obtain rfl:n=j:=by omega
       subst eJ
       have hCl:∀j,j < n→∃x,row[j]?=some x∧(C i j).length=8∧((C i j).all Value.oneCell'=true)∧Iv h0 (.agg (C i j).toArray) x∧∀(t:Nat) u,(C i j)[t]?=some u→h0.at ⟨rb,ro+j*8+t,none⟩=some u:=fun j hj=>by
        obtain⟨x,hx⟩:∃x,row[j]?=some x:=⟨_,List.getElem?_eq_getElem (by omega)⟩
        obtain⟨⟨b1,a1,m1,k1,a2,m2,k2,b2,a3,m3,k3,a4,m4,k4,e1,e2,eC⟩,ivx,rb',ro',era',hcell⟩:=hrow j x hx
        rw[era] at era'
        cases era'
        exact⟨x,hx,by rw[eC];rfl,by rw[eC];rfl,ivx,hcell⟩
       obtain⟨xs,hxl,hxd,hxg⟩:=flat8 (n:=n) (f:=C i) (fun j hj=>(hCl j hj).choose_spec.2.1)
       obtain⟨ei,ti2,z0,hU2,hi0,hz0,hz1,hz2,_,hy1,hy2⟩:=mkN_some (P:=Tryz.prog) (T:=42) (sz:=8) (by kernel_rfl)
       obtain rfl:ei=41:=by have:=hU2.symm.trans Tryz.underlying42;simpa using this
       obtain⟨ej,tj2,y0,hV2,hj0,hw0,hw1,hw2,_,hv1,hv2⟩:=mkN_some (P:=Tryz.prog) (T:=22) (sz:=1) (by kernel_rfl)
       obtain rfl:ej=42:=by have:=hV2.symm.trans Tryz.underlying22;simpa using this
       have hb0:Below wr.heap.size wr (wr.alloc (.cells #[] 41)):=(Below.refl _ wr).alloc (η _) _
       have h0c:=s.has.below hb0
       gi_wp2_with (gi_at_builtin;refine Hid.out ?_)
       change wpListIn _ _ _ _ _ _ _ _
       refine wpListIn_append_own_at _ rfl _ _ 42 rfl wr.heap.size 41 ti2 z0 8 ti2.bytes hU2 hi0 hz0 hz1 rfl hz2 (by decide) _ 0 [] rfl (World.ownsRow_made wr #[] 0 (η _) (by unfold maxLen;omega) (by simp)) ⟨rb,ro,none⟩ n (rc i) xs rfl hxl ?_ ?_ (by unfold maxLen;omega) ?_ hb0.size ?_
       ·intro t u hu
        obtain⟨k1,k2⟩:=hxg t u hu
        obtain⟨x,_,_,_,_,k3⟩:=hCl _ k1
        have:=h0c.cell (l2.sub.at (k3 _ u k2))
        rw[show(⟨rb,ro,none⟩:Addr).add t=⟨rb,ro+t / 8*8+t % 8,none⟩ by
         have:ro+t / 8*8+t % 8=ro+t:=by omega
         rw[this];unfold Addr.add;split<;>simp_all]
        exact this
       ·intro u hu
        obtain⟨t,ht⟩:=List.mem_iff_getElem?.1 hu
        obtain⟨k1,k2⟩:=hxg t u ht
        obtain⟨x,_,_,k3,_⟩:=hCl _ k1
        exact qBd.1 k3 u (List.mem_of_getElem? k2)
       ·exact χ (qAk (show 0+n≤8 by omega) hy2) (by decide)
       intro v1 w1 hown1 hgrow1 _ _
       rw[Nat.zero_add,List.nil_append] at hown1
       have hb1:Below wr.heap.size wr w1:=hb0.grown hgrow1 hb0.size (fun k e=>by cases e;exact η _)
       obtain⟨g1,cap1,rfl⟩:∃g1 cap1,v1=.slice (some ⟨g1,0,none⟩) n cap1:=by
        rcases hown1.2 with⟨_,e⟩ |⟨g1,cap1,_,e,_⟩
        ·omega
        ·exact⟨g1,cap1,e⟩
       have hb2:Below w1.heap.size w1 (w1.alloc (.cells #[.slice (some ⟨g1,0,none⟩) n cap1] 42)):=(Below.refl _ w1).alloc (η _) _
       have hb12:Below wr.heap.size wr (w1.alloc (.cells #[.slice (some ⟨g1,0,none⟩) n cap1] 42)):=hb1.trans (hb2.mono hb1.size)
       have s2:=s.call hb12 (s.has.below hb12) (Sub.refl _) (fun _ h=>.inl h)
       obtain⟨ys,hys1,hys2⟩:=s2.own
       gi_wp2_with (gi_at_builtin;refine Hid.out ?_)
       change wpListIn _ _ _ _ _ _ _ _
       refine wpListIn_append_own_at _ rfl _ _ 22 rfl w.heap.size 42 tj2 y0 1 tj2.bytes hV2 hj0 hw0 hw1 rfl hw2 (by decide) u8 i ys rfl hys1 ⟨w1.heap.size,0,none⟩ 1 1 [.slice (some ⟨g1,0,none⟩) n cap1] rfl rfl (new_cells rfl #[.slice (some ⟨g1,0,none⟩) n cap1] _) (by simp[Value.oneCell']) (by unfold maxLen;omega) (χ (qAk (show i+1≤8 by omega) hv2) (by decide)) s2.below.size ?_
       intro v2 w3 hown2 hgrow2 _ hat2
       obtain⟨g',cp',s'⟩:=s.app hown1 hb1 (f:=C i) (fun j hj=>⟨hxd j hj,by
        obtain⟨x,k1,_,_,k2,_⟩:=hCl j hj
        rw[atL_eq hr k1];exact k2.to⟩) hb2 hys2 (by rw[hys1.1];omega) hown2 hgrow2 hat2 (by omega)
       obtain⟨g2,cap2,rfl⟩:=ownsRow_succ hown2
       gi_wp2
       go_roundw
       case rel=>
        exact⟨_,i+1,by omega,by omega,rfl,by rw[voidB_row hr,hrn],nbB_row (by rw[hrn];exact hnb) hr,hp,g',cp',s'⟩
       case measure=>simp[RowKit.intOf];omega
    ·obtain rfl:n=i:=by omega
     have hnb':nbB L L.length 0:=by rw[hn];exact hnb
     cases hv:voidB L n 0 with
     | true=>
      gi_wp2
      refine bodyPost_ret (results_tmp2 rfl _ _ _) rfl ?_
      exact hP s.below s.has s.sub s.new (by rw[dfO_void hq hLen hnb' (by rw[hn];exact hv)];rfl)
     | false =>
      have hgo:=fun b=>dfO_go (b:=b) hq hLen hnb' (by rw[hn];exact hv)
      rw[hn] at hgo
      obtain⟨a',cap,b,rfl,hab,hd0⟩:=s.df
      have hnm:NbM n (atL L):=by rw[←hn];exact nbm_of hnb'
      clear s hnb
      gi_wp2
      gi_loopw [69] (fun q W=>∃(K:Int) (k:Nat),(k:Int)=K∧k≤n∧q=.int .i64 K∧∃M hp,DfSt w h b 0 n g cp M W hp∧NbM n M∧(dfG p n n 0 (atL L)↔dfG p n (n - k) k M)) (fun q _=>n - (RowKit.intOf q).toNat)
      case atStart=>exact⟨0,0,rfl,by omega,rfl,_,hp,hd0,hnm,Iff.rfl⟩
      case round=>
       clear hd0 hnm
       obtain⟨K,k,eK,hk1,rfl,M,hp,s,hnm,hiff⟩:=hrel
       have hK1:0≤K:=by omega
       have eK2:K.toNat=k:=by omega
       by_cases h3:K < n
       ·have hkn:k < n:=by omega
        obtain rfl:=hab (by omega)
        rw[show n - k=(n - (k+1))+1 by omega] at hiff
        rw[dfG_succ] at hiff
        obtain⟨b1,a1,m1,k1,a2,m2,k2,b2,a3,m3,k3,a4,m4,k4,e1,e2,dA,iA⟩:=s.m.entry hkn hkn
        have ou:=s.m.outer k hkn
        rw[Nat.zero_add] at ou
        obtain⟨q0,q1,q2,q3,q4,q5,q6,q7⟩:=c8 dA
        have kO:=RefOf (h0:=hp) (h:=hp) iA (hnm k k hkn hkn)
        have kS:=fun {h':PH} {v:Value} (r:Rr h' v (M k k).set)=>zr (h0:=h') (h:=h') r (RI.set_ok _)
        obtain⟨S,hS⟩:∃S,sgN (M k k).set=S:=⟨_,rfl⟩
        rw[hS] at kS hiff
        by_cases hS2:S=2
        ·subst hS2
         gi_wp2_with (first
          |(gi_at_call 35;refine(callsIn_wide.2 (kO.run _ s.m.has (hg.trans s.sub))).mono ?_;rintro e W2 hP2;obtain⟨_,h1,rfl,t1,t2,t3,t4,r⟩:=post_ret hP2;have s2:=s.call t1 t2 t3 t4;obtain⟨_,_,_,_,_,_,_,_,_,_,_,_,_,_,rfl,_,_⟩:=r.sa;have kT:=kS r)
          |(gi_at_call 36;refine(callsIn_wide.2 (kT.run _ s2.m.has (hg.trans s2.sub))).mono ?_;rintro e W3 hP3;obtain⟨_,h2',rfl,r1,r2,r3,r4,rfl⟩:=post_ret hP3;have s3:=s2.call r1 r2 r3 r4;have kEl:=fun N=>relim_p (N:=N) (p:=p) (c:=cap) s3.m (by omega) hkn (hg.trans s3.sub);rw[eK] at kEl)
          |(gi_at_call 37;refine(kEl _).mono ?_;rintro e W4 (⟨rfl,hB,h3',s4⟩ |⟨rfl,hB,h3',M',s4⟩)))
         ·go_roundw
          case rel=>exact⟨_,k+1,by omega,by omega,rfl,_,h3',s3.el s4,hnm.el,hiff.trans ⟨fun q=>q.2.2,fun q=>⟨trivial,hB,q⟩⟩⟩
          case measure=>simp[RowKit.intOf];omega
         ·refine bodyPost_ret (results_tmp2 rfl _ _ _) rfl ?_
          have s5:=s3.el s4
          exact hP s5.below s5.m.has s5.sub s5.new (by rw[hgo false (by rw[hiff];simp[hB])];rfl)
        ·gi_wp2_with (first
          |(gi_at_call 35;refine(callsIn_wide.2 (kO.run _ s.m.has (hg.trans s.sub))).mono ?_;rintro e W2 hP2;obtain⟨_,h1,rfl,t1,t2,t3,t4,r⟩:=post_ret hP2;have s2:=s.call t1 t2 t3 t4;obtain⟨_,_,_,_,_,_,_,_,_,_,_,_,_,_,rfl,_,_⟩:=r.sa;have kT:=kS r)
          |(gi_at_call 36;refine(callsIn_wide.2 (kT.run _ s2.m.has (hg.trans s2.sub))).mono ?_;rintro e W3 hP3;obtain⟨_,h2',rfl,r1,r2,r3,r4,rfl⟩:=post_ret hP3;have s3:=s2.call r1 r2 r3 r4))
         refine bodyPost_ret (results_tmp2 rfl _ _ _) rfl ?_
         exact hP s3.below s3.m.has s3.sub s3.new (by rw[hgo false (by rw[hiff];simp[hS2])];rfl)
       ·obtain rfl:n=k:=by omega
        rw[Nat.sub_self] at hiff
        gi_wp2
        refine bodyPost_ret (results_tmp2 rfl _ _ _) rfl ?_
        exact hP s.below s.m.has s.sub s.new (by rw[hgo true (by rw[hiff];simp[dfG])];rfl)
open Go.Proofs Go.Proofs.YtdhfkmaejkgceaaGreatDoor
open Go.ChangeShapes Go.WideShapes Go.ChangeAt Go.RowKit
section
variable {H:Type} {enc:TypeId×Value→H} {W:World} {sp:Nat→Bool} {held:Bool}
theorem list_of {α:Type} (P:Nat→α→Prop):∀n,(∀i,i < n→∃s,P i s)→∃l:List α,l.length=n∧∀i s,l[i]?=some s→P i s:=by
 intro n
 induction n with
 |zero=>exact fun _=>⟨[],rfl,fun i s h=>by simp at h⟩
 | succ n ih=>
  intro h
  obtain⟨l,hl,k⟩:=ih fun i hi=>h i (by omega)
  obtain⟨s,hs⟩:=h n (by omega)
  refine⟨l ++[s],by simp[hl],fun i t hi=>?_⟩
  rcases qBj i l.length with g |g
  ·rw[List.getElem?_append_left g] at hi;exact k i t hi
  ·have:i < (l ++[s]).length:=(List.getElem?_eq_some_iff.1 hi).1
   simp only[qAp,List.length_singleton] at this
   obtain rfl:i=l.length:=by omega
   rw[List.getElem?_append_right (η _),Nat.sub_self] at hi
   cases hi;rw[hl];exact hs
end
open Go.Proofs Go.Proofs.YtdhfkmaejkgceaaGreatDoor
open Go.ChangeShapes Go.WideShapes Go.ChangeAt Go.RowKit
theorem unIs:Tryz.prog.underlying 42=some (.slice 41):=by kernel_rfl
theorem unIm:Tryz.prog.underlying 22=some (.slice 42):=by kernel_rfl
theorem ceIs:Tryz.prog.cellsOf 42=1:=by kernel_rfl
theorem at_spot {h:PH} {a:Addr} {v:Value} (h1:h.at a=some v):a=⟨a.block,a.off,none⟩:=by
 cases a with
 | mk b o s=>
  cases s with
  |none=>rfl
  |some q=>simp[PH.at] at h1
theorem adr0 (a:Addr):a.add 0=a:=by unfold Addr.add;rw[if_pos rfl]
theorem adrN (b o k:Nat):(⟨b,o,none⟩:Addr).add k=⟨b,o+k,none⟩:=by
 unfold Addr.add
 split<;>simp_all
section
variable {H:Type} {enc:TypeId×Value→H} {W:World} {sp:Nat→Bool} {held:Bool}
theorem open_ivs {fuel:Nat} {v:Value} {x:DataW H×List MemPlace} (h:DataW.trod enc Tryz.prog W 0 sp held fuel 42 [v]=some x) {B:Nat} (hB:B≤1048576) (hk:Rows.uptoBulk x.1≤B):
  ∃(row:List RI) (a:Option Addr) (c:Nat) (C:Nat→List Value),v=.slice a row.length c∧row.length≤2^30∧∀j y,row[j]?=some y→ivC (C j)∧Iv (pub W) (.agg (C j).toArray) y∧∃rb ro,a=some ⟨rb,ro,none⟩∧∀(t:Nat) u,(C j)[t]?=some u→(pub W).at ⟨rb,ro+j*8+t,none⟩=some u:=by
 rcases DataW.trod_slice unIs h with⟨e,_⟩ |⟨a,len,cap,elems,rest,n,_,e,rfl,_,hl,hm,hlen,hel,_,_⟩
 ·cases e
  exact⟨[],none,0,fun _=>[],rfl,by simp,fun j s h=>by simp at h⟩
 cases e
 simp only[Rows.uptoBulk] at hk
 have b1:=bulk_len (H:=H) (elems.map (·.1))
 rw[List.length_map,hlen] at b1
 obtain⟨l,hll,hP⟩:=list_of (fun j (s:RI)=>∃cs:List Value,ivC cs∧Iv (pub W) (.agg cs.toArray) s∧∀(t:Nat) u,cs[t]?=some u→(pub W).at ((a.add (j*8)).add t)=some u) len fun i hi=>by
  have he:=hel i hi
  obtain⟨y,hy⟩:∃y,elems[i]?=some y:=⟨_,List.getElem?_eq_getElem (by omega)⟩
  rw[hy,Option.bind_eq_some_iff,ce26] at he
  obtain⟨cs,hc,ht⟩:=he
  have hb:=bulk_mem (d:=y.1) (l:=elems.map (·.1)) (List.mem_map.2 ⟨y,List.mem_of_getElem? hy,rfl⟩)
  obtain⟨z,hz⟩:=open_iv ht hB (by omega)
  have hc':=World.cells?_some hc
  obtain⟨_,_,_,_,_,_,_,_,_,_,_,_,e,_,_⟩:=hz.sa
  refine⟨z,cs,?_,hz,fun t u hu=>?_⟩
  ·have e:cs=_:=congrArg Array.toList (Value.agg.inj e)
   exact⟨_,_,_,_,_,_,_,_,_,_,_,_,_,_,_,_,e⟩
  ·have e8:cs.length=8:=by have e:cs=_:=congrArg Array.toList (Value.agg.inj e);rw[e];rfl
   have:t < 8:=by have:=(List.getElem?_eq_some_iff.1 hu).1;omega
   rw[pub_at,hc'.2.2 t this]
   exact hu
 have hC:∀j,∃cs:List Value,∀s,l[j]?=some s→ivC cs∧Iv (pub W) (.agg cs.toArray) s∧∀(t:Nat) u,cs[t]?=some u→(pub W).at ((a.add (j*8)).add t)=some u:=fun j=>by
  cases e:l[j]? with
  |none=>exact⟨[],fun s h=>by cases h⟩
  |some s=>obtain⟨cs,k⟩:=hP j s e;exact⟨cs,fun s' h=>by cases h;exact k⟩
 obtain⟨C,hC⟩:=Classical.axiomOfChoice hC
 refine⟨l,some a,cap,C,by rw[hll],by omega,fun j y hj=>?_⟩
 obtain⟨k1,k2,k3⟩:=hC j y hj
 refine⟨k1,k2,?_⟩
 have hsp:a=⟨a.block,a.off,none⟩:=by
  obtain⟨s0,e0⟩:∃s0,l[0]?=some s0:=⟨_,List.getElem?_eq_getElem (by have:=(List.getElem?_eq_some_iff.1 hj).1;omega)⟩
  obtain⟨⟨_,_,_,_,_,_,_,_,_,_,_,_,_,_,_,_,e⟩,_,k4⟩:=hC 0 s0 e0
  have:=k4 0 _ (by rw[e];rfl)
  rw[Nat.zero_mul,adr0,adr0] at this
  exact at_spot this
 refine⟨a.block,a.off,by rw[←hsp],fun t u hu=>?_⟩
 have:=k3 t u hu
 rwa[hsp,adrN,adrN] at this
theorem open_mat {fuel:Nat} {v:Value} {x:DataW H×List MemPlace} (h:DataW.trod enc Tryz.prog W 0 sp held fuel 22 [v]=some x) {B:Nat} (hB:B≤1048576) (hk:Rows.uptoBulk x.1≤B):
  ∃L:List (List RI),Matv (pub W) v L:=by
 rcases DataW.trod_slice unIm h with⟨e,_⟩ |⟨a,len,cap,elems,rest,n,_,e,rfl,_,hl,hm,hlen,hel,_,_⟩
 ·cases e
  exact⟨[],none,0,fun _=>none,fun _=>0,fun _ _=>[],rfl,by simp,fun i s h=>by simp at h⟩
 cases e
 simp only[Rows.uptoBulk] at hk
 have b1:=bulk_len (H:=H) (elems.map (·.1))
 rw[List.length_map,hlen] at b1
 obtain⟨l,hll,hP⟩:=list_of (fun i (row:List RI)=>∃(ra:Option Addr) (c:Nat) (C:Nat→List Value),row.length≤2^30∧(pub W).at (a.add i)=some (.slice ra row.length c)∧∀j y,row[j]?=some y→ivC (C j)∧Iv (pub W) (.agg (C j).toArray) y∧∃rb ro,ra=some ⟨rb,ro,none⟩∧∀(t:Nat) u,(C j)[t]?=some u→(pub W).at ⟨rb,ro+j*8+t,none⟩=some u) len fun i hi=>by
  have he:=hel i hi
  obtain⟨y,hy⟩:∃y,elems[i]?=some y:=⟨_,List.getElem?_eq_getElem (by omega)⟩
  rw[hy,Option.bind_eq_some_iff,ceIs] at he
  obtain⟨cs,hc,ht⟩:=he
  have hb:=bulk_mem (d:=y.1) (l:=elems.map (·.1)) (List.mem_map.2 ⟨y,List.mem_of_getElem? hy,rfl⟩)
  have hc':=World.cells?_some hc
  obtain⟨c0,rfl⟩:∃c0,cs=[c0]:=by
   match cs,hc'.1 with
   |[c0],_=>exact⟨c0,rfl⟩
  obtain⟨row,ra,c,C,rfl,k1,k2⟩:=open_ivs ht hB (by omega)
  refine⟨row,ra,c,C,k1,?_,k2⟩
  have:=hc'.2.2 0 (by omega)
  rw[pub_at,show a.add i=(a.add (i*1)).add 0 by rw[adr0,qAz]]
  exact this
 have hC:∀i,∃t:Option Addr×Nat×(Nat→List Value),∀row,l[i]?=some row→row.length≤2^30∧(pub W).at (a.add i)=some (.slice t.1 row.length t.2.1)∧∀j y,row[j]?=some y→ivC (t.2.2 j)∧Iv (pub W) (.agg (t.2.2 j).toArray) y∧∃rb ro,t.1=some ⟨rb,ro,none⟩∧∀(t':Nat) u,(t.2.2 j)[t']?=some u→(pub W).at ⟨rb,ro+j*8+t',none⟩=some u:=fun i=>by
  cases e:l[i]? with
  |none=>exact⟨(none,0,fun _=>[]),fun s h=>by cases h⟩
  |some row=>obtain⟨ra,c,C,k⟩:=hP i row e;exact⟨(ra,c,C),fun s' h=>by cases h;exact k⟩
 obtain⟨F,hF⟩:=Classical.axiomOfChoice hC
 refine⟨l,some a,cap,fun i=>(F i).1,fun i=>(F i).2.1,fun i=>(F i).2.2,by rw[hll],by omega,fun i row hi=>?_⟩
 obtain⟨k1,k2,k3⟩:=hF i row hi
 have hsp:a=⟨a.block,a.off,none⟩:=by
  obtain⟨s0,e0⟩:∃s0,l[0]?=some s0:=⟨_,List.getElem?_eq_getElem (by have:=(List.getElem?_eq_some_iff.1 hi).1;omega)⟩
  have:=(hF 0 s0 e0).2.1
  rw[adr0] at this
  exact at_spot this
 refine⟨k1,a.block,a.off,by rw[←hsp],?_,k3⟩
 rw[hsp,adrN] at k2
 exact k2
end
open Go.Proofs
theorem Matv.sa {h:PH} {v:Value} {L:List (List RI)} (r:Matv h v L):∃a m c,v=.slice a m c:=let ⟨a,c,_,_,_,e,_⟩:=r;⟨a,_,c,e⟩
theorem Definites_law {h0 h:PH} [Le h0 h] {v:Value} {p:Int} {L:List (List RI)} (hv:Matv h0 v L):Spec mach 3 #[v,.int .i64 p] h (fun r _=>r=.bool true) NP:=by
 have kF:=fun {h} [Le h0 h]=>Definite_spec (h:=h) (p:=p) hv
 have kG:=fun {h} [Le h0 h]=>RDefinite_spec (h:=h) (p:=p) hv
 unfold dfR at kF kG
 obtain⟨⟨b,e⟩,hw⟩:∃x,dfO p L=x:=⟨_,rfl⟩
 rw[hw] at kF kG
 obtain⟨_,_,_,rfl⟩:=hv.sa
 refine Spec.go [] Tryz.func3 rfl rfl (by kernel_rfl) fun C _=>?_
 simp(disch:=omega) only[go_sem,ξ,ζ]
 refine caN (by exact kF) ?_;rintro v1 h1 s1 rfl
 simp(disch:=omega) only[go_sem,ξ,ζ]
 refine caN (by exact kG) ?_;rintro v2 h2 s2 rfl
 simp(disch:=omega) only[go_sem,ξ,ζ]
 refine caN (by exact awake05_spec) ?_;rintro v8 h8 s8 rfl
 simp(disch:=omega) only[go_sem,ξ,ζ]
 all_goals rfl
end Go.Q
