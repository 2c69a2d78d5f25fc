/-
  Matrices of intervals as they come in; what an elimination says of them; a matrix in the making, and what stands on it. Conditions: each theorem's own.
-/
import Derived.Test.YtdhfkmaejkgceaaGreatDoorKd2878dPkA
import Derived.Test.YtdhfkmaejkgceaaGreatDoorKf2d07aPkP
import Derived.Test.YtdhfkmaejkgceaaGreatDoorK944a42PkN
import Derived.Test.YtdhfkmaejkgceaaGreatDoorK5f1229PkO
import Derived.Test.YtdhfkmaejkgceaaGreatDoorKd61942PkG
import Derived.Test.YtdhfkmaejkgceaaGreatDoorK2b21c9PkI
import Derived.Test.YtdhfkmaejkgceaaGreatDoorKd2ac1dPkD
import Derived.Test.YtdhfkmaejkgceaaGreatDoorK593d77PkL
import Derived.Test.YtdhfkmaejkgceaaGreatDoorK1b250bPkM
set_option linter.unusedVariables false
set_option linter.unusedSimpArgs false
open Nat renaming reduceBEq→ξ,reduceAdd→ζ,le_trans→χ,mul_le_mul_right→ψ,le_refl→η,mul_comm→ρ,mul_add→qAm,pow_pos→qAo,pow_le_pow_right→qAv,mul_one→qAz,zero_le→qBh,mod_eq_of_lt→qBi,lt_or_ge→qBj
open Bool renaming and_eq_true→φ
open List renaming length_append→qAp,take_of_length_le→qAr,all_eq_true→qBd
open Rat renaming le_trans→qAq,div_def→qAx,mul_inv_cancel→qBf
namespace Go.Q
open Go.Proofs Go.RowKit
set_option maxRecDepth 100000
set_option maxHeartbeats 4000000
theorem inAppend {F:Fence} {nF:Nat} {P:Program} {w:World} {o:Oper} {a:Act} {K:Act→World→Prop} {Q:Exit→Act→World→Prop} (s x:Operand) (t:TypeId)
  (ho:o.op=.call {callee:=.builtin .append,args:=#[s,x],argTypes:=#[t,t]})
  (base:Nat) (e:TypeId) (i:TypeInfo) (z:Value) (size bytes:Nat) (ht:P.underlying t=some (.slice e)) (hi:P.info? e=some i) (hz:i.zero=some z)
  (hsize:i.size=size) (hby:i.bytes=bytes) (hzs:z.cells.size=size) (hsz:0 < size)
  (v:Value) (n:Nat) (xs:List Value) (hs:a.eval s=v) (hown:w.ownsRow base e size v n xs)
  (ad:Addr) (m c:Nat) (news:List Value) (hx:a.eval x=.slice (some ad) m c) (hl:news.length=m*size) (hnews:∀(j:Nat) u,news[j]?=some u→w.cell? (ad.add j)=some u) (h1:∀u∈news,u.oneCell'=true)
  (h63:n+m≤maxLen) (hbytes:(n+m)*bytes≤140737488355328) (hbase:base≤w.heap.size)
  (h:∀v' w',w'.ownsRow base e size v' (n+m) (xs ++news)→w.grownBy w' v.ownBlock→(v'.ownBlock=v.ownBlock∨v'.ownBlock=some w.heap.size)→K (a.put o.dst v') w'):o.wpIn F nF P a w K Q:=by
 obtain⟨v',w',hr,h2,h3,h4,h5⟩:=run_append_own_at (P:=P) w base t o.type e i z size bytes ht hi hz hsize hby hzs hsz v n xs hown ad m c news hl hnews h1 h63 hbytes hbase
 unfold Oper.wpIn
 refine⟨by simp[Oper.about,ho,resolve,Target.leads,Sem.run_pure],?_⟩
 rw[Oper.semAt_plain F _ _ (by rw[ho];intro c hc';cases hc')]
 simp[execOp,ho,resolve,invoke,builtin,hs,hx,hr,Result.andThen]
 exact h v' w' h2 h3 h5
def Matv (h:PH) (v:Value) (L:List (List RI)):Prop:=∃(a:Option Addr) (c:Nat) (ra:Nat→Option Addr) (rc:Nat→Nat) (C:Nat→Nat→List Value),v=.slice a L.length c∧L.length≤2^30∧
 ∀i row,L[i]?=some row→row.length≤2^30∧∃blk off,a=some ⟨blk,off,none⟩∧h.at ⟨blk,off+i,none⟩=some (.slice (ra i) row.length (rc i))∧∀j x,row[j]?=some x→ivC (C i j)∧Iv h (.agg (C i j).toArray) x∧∃rb ro,ra i=some ⟨rb,ro,none⟩∧∀(t:Nat) u,(C i j)[t]?=some u→h.at ⟨rb,ro+j*8+t,none⟩=some u
theorem Matv.to {h h':PH} {v:Value} {L:List (List RI)} (r:Matv h v L) [k:Le h h']:Matv h' v L:=by
 obtain⟨a,c,ra,rc,C,e,hl,f⟩:=r
 refine⟨a,c,ra,rc,C,e,hl,fun i row hr=>?_⟩
 obtain⟨h1,blk,off,h2,h3,h4⟩:=f i row hr
 refine⟨h1,blk,off,h2,k.sub.at h3,fun j x hx=>?_⟩
 obtain⟨g1,g2,rb,ro,g3,g4⟩:=h4 j x hx
 exact⟨g1,g2.to,rb,ro,g3,fun t u hu=>k.sub.at (g4 t u hu)⟩
def zR0:RI:=⟨false,0,0,false,0,0,false,false⟩
theorem zR0_big:zR0.big=false:=by kernel_rfl
def atL (L:List (List RI)) (i j:Nat):RI:=((L[i]?.getD [])[j]?).getD zR0
theorem atL_eq {L:List (List RI)} {i j:Nat} {row:List RI} {x:RI} (h1:L[i]?=some row) (h2:row[j]?=some x):atL L i j=x:=by unfold atL;rw[h1];simp[h2]
def dfG (p:Int) (n:Nat):Nat→Nat→(Nat→Nat→RI)→Prop
 |0,_,_=>True
 |m+1,k,M=>sgN (M k k).set=2∧elB p k n M∧dfG p n m (k+1) (elM p k M)
open Classical in
noncomputable def dfO (p:Int) (L:List (List RI)):Bool×Int:=
 bif decide (6 < L.length) || decide (p < 0) || decide (128 < p) then (false,2) else bif L.any (fun r=>r.length != L.length) then (false,2) else bif L.any (fun r=>r.any RI.big) then (false,1) else bif L.any (fun r=>r.any (fun x=>x.set.void)) then (false,0) else (decide (dfG p L.length L.length 0 (atL L)),0)
def voidB (L:List (List RI)) (i j:Nat):Bool:=(L.take i).any (fun r=>r.any (fun x=>x.set.void)) || ((L[i]?.getD []).take j).any (fun x=>x.set.void)
theorem voidB_next {L:List (List RI)} {i j:Nat} {row:List RI} {x:RI} (h1:L[i]?=some row) (h2:row[j]?=some x):voidB L i (j+1)=(voidB L i j || x.set.void):=by
 unfold voidB
 rw[h1,Option.getD_some,List.take_succ_eq_append_getElem (List.getElem?_eq_some_iff.1 h2).1,(List.getElem?_eq_some_iff.1 h2).2]
 simp[Bool.or_assoc]
theorem voidB_row {L:List (List RI)} {i:Nat} {row:List RI} (h1:L[i]?=some row):voidB L (i+1) 0=voidB L i row.length:=by
 unfold voidB
 rw[h1,Option.getD_some,List.take_succ_eq_append_getElem (List.getElem?_eq_some_iff.1 h1).1,(List.getElem?_eq_some_iff.1 h1).2]
 simp
def nbB (L:List (List RI)) (i j:Nat):Prop:=∀a b row x,L[a]?=some row→row[b]?=some x→(a < i∨a=i∧b < j)→x.big=false
theorem nbB_next {L:List (List RI)} {i j:Nat} {row:List RI} {x:RI} (h:nbB L i j) (h1:L[i]?=some row) (h2:row[j]?=some x) (hx:x.big=false):nbB L i (j+1):=fun a b r y k1 k2 k3=>by
 rcases k3 with k |⟨rfl,k⟩
 ·exact h a b r y k1 k2 (.inl k)
 ·rcases qBj b j with g |g
  ·exact h _ b r y k1 k2 (.inr ⟨rfl,g⟩)
  ·obtain rfl:b=j:=by omega
   rw[h1] at k1;cases k1;rw[h2] at k2;cases k2;exact hx
theorem nbB_row {L:List (List RI)} {i:Nat} {row:List RI} (h:nbB L i row.length) (h1:L[i]?=some row):nbB L (i+1) 0:=fun a b r y k1 k2 k3=>by
 rcases qBj a i with g |g
 ·exact h a b r y k1 k2 (.inl g)
 ·obtain rfl:a=i:=by omega
  rw[h1] at k1;cases k1
  exact h _ b _ y h1 k2 (.inr ⟨rfl,(List.getElem?_eq_some_iff.1 k2).1⟩)
theorem nbB_any {L:List (List RI)} (h:nbB L L.length 0):L.any (fun r=>r.any RI.big)=false:=by
 rw[List.any_eq_false]
 intro r hr
 obtain⟨i,hi⟩:=List.mem_iff_getElem?.1 hr
 rw[Bool.not_eq_true,List.any_eq_false]
 intro x hx
 obtain⟨j,hj⟩:=List.mem_iff_getElem?.1 hx
 rw[h i j r x hi hj (.inl (List.getElem?_eq_some_iff.1 hi).1)]
 simp
theorem big_any {L:List (List RI)} {i j:Nat} {row:List RI} {x:RI} (h1:L[i]?=some row) (h2:row[j]?=some x) (hx:x.big=true):L.any (fun r=>r.any RI.big)=true:=
 List.any_eq_true.2 ⟨row,List.mem_of_getElem? h1,List.any_eq_true.2 ⟨x,List.mem_of_getElem? h2,hx⟩⟩
theorem voidB_all {L:List (List RI)}:voidB L L.length 0=L.any (fun r=>r.any (fun x=>x.set.void)):=by unfold voidB;simp
def NbM (n:Nat) (M:Nat→Nat→RI):Prop:=∀a b,a < n→b < n→(M a b).big=false
theorem NbM.el {p:Int} {k n:Nat} {M:Nat→Nat→RI} (h:NbM n M):NbM n (elM p k M):=fun a b ha hb=>by
 unfold elM
 split
 ·cases e:elE p (M k k) (M k a) (M k b) (M a b) with
  |error _=>exact h a b ha hb
  | ok z=>
   refine NS.ri_big ?_
   unfold elE at e
   cases e1:mulE p (M k a) (M k b) with
   |error _=>rw[e1] at e;cases e
   | ok x=>
    rw[e1] at e;dsimp only at e
    cases e2:divE p x.ri (M k k) with
    |error _=>rw[e2] at e;cases e
    |ok y=>rw[e2] at e;exact fin2_le e
 ·exact h a b ha hb
theorem nbm_of {L:List (List RI)} (h:nbB L L.length 0):NbM L.length (atL L):=fun a b _ _=>by
 unfold atL
 cases e1:L[a]? with
 |none=>exact zR0_big
 | some row=>
  rw[Option.getD_some]
  cases e2:row[b]? with
  |none=>exact zR0_big
  |some x=>exact h a b row x e1 e2 (.inl (List.getElem?_eq_some_iff.1 e1).1)
theorem below_kx {w A B:World} {n:Nat} {g:Nat→Nat} (h:Below w.heap.size w A) (k:Kx n g A B) (hg:∀i,i < n→w.heap.size≤g i):Below w.heap.size w B:=
 ⟨k.os.trans h.os,k.tape.trans h.tape,k.output.trans h.output,χ h.size k.size,fun b hb=>(k.block b (Nat.lt_of_lt_of_le hb h.size) (fun i hi e=>by have:=hg i hi;omega)).trans (h.block b hb)⟩
structure DfSt (w:World) (h:PH) (WB off n:Nat) (g cp:Nat→Nat) (M:Nat→Nat→RI) (W:World) (hp:PH):Prop where
 sub:Sub h hp
 new:New w.heap.size h hp
 below:Below w.heap.size w W
 m:Mx W hp WB off n n g cp M
 base:∀i,i < n→w.heap.size≤g i
section
variable {w:World} {h:PH} {WB off n:Nat} {g cp:Nat→Nat} {M:Nat→Nat→RI} {W:World} {hp:PH}
theorem DfSt.call (s:DfSt w h WB off n g cp M W hp) {h':PH} {W':World} (hb:Below W.heap.size W W') (hh:Has W' h') (hs:Sub hp h') (hn:New W.heap.size hp h'):DfSt w h WB off n g cp M W' h':=
 ⟨s.sub.trans hs,fun k hk=>(hn k hk).elim (s.new k) (fun q=>.inr (χ s.below.size q)),s.below.trans (hb.mono s.below.size),s.m.up hs hh hb hn,s.base⟩
theorem DfSt.el (s:DfSt w h WB off n g cp M W hp) {M':Nat→Nat→RI} {W':World} {h':PH} (e:ElS W hp WB off n g cp M' W' h'):DfSt w h WB off n g cp M' W' h':=
 ⟨s.sub.trans e.sub,fun k hk=>(e.new k hk).elim (s.new k) (fun q=>.inr (χ s.below.size q)),below_kx s.below e.kx s.base,e.m,s.base⟩
end
def Qi (h:PH) (cs:List Value) (x:RI):Prop:=Iv h (.agg cs.toArray) x
structure BlSt (w:World) (h:PH) (n WB:Nat) (T E:TypeId) (M:Nat→Nat→RI) (i:Nat) (row:List RI) (W:World) (hp:PH) (g cp:Nat→Nat) (v:Value):Prop where
 sub:Sub h hp
 new:New w.heap.size h hp
 below:Below w.heap.size w W
 m:Mx W hp WB 0 i n g cp M
 base:∀a,a < i→w.heap.size≤g a
 wb:∃cs:List Value,W.heap[WB]?=some (.cells cs.toArray T (0,0))∧cs.length=n∧(i < n→cs[i]?=some v)∧∀a,i < a→a < n→cs[a]?=some (.slice none 0 0)
 wbp:hp WB=none
 wbb:w.heap.size≤WB
 own:∃xs,W.ownsRow w.heap.size E 8 v row.length xs∧RowOf 8 (Qi hp) xs row
 ownp:∀b,v.ownBlock=some b→hp b=none∧b≠WB∧∀a,a < i→b≠g a
section
variable {w:World} {h:PH} {n WB:Nat} {T E:TypeId} {M:Nat→Nat→RI} {i:Nat} {row:List RI} {W:World} {hp:PH} {g cp:Nat→Nat} {v:Value}
theorem BlSt.call (s:BlSt w h n WB T E M i row W hp g cp v) {h':PH} {W':World} (hb:Below W.heap.size W W') (hh:Has W' h') (hs:Sub hp h') (hn:New W.heap.size hp h'):BlSt w h n WB T E M i row W' h' g cp v:=by
 have off:∀k,k < W.heap.size→hp k=none→h' k=none:=fun k hk e=>by
  cases e2:h' k with
  |none=>rfl
  | some cs=>
   rcases hn k (by rw[e2];simp) with g |g
   ·exact absurd e g
   ·omega
 obtain⟨cs,w1,w2,w3,w4⟩:=s.wb
 obtain⟨xs,h1,h2⟩:=s.own
 have hlt:∀b,v.ownBlock=some b→b < W.heap.size:=fun b e=>(h1.lt b e).2
 refine⟨s.sub.trans hs,fun k hk=>(hn k hk).elim (s.new k) (fun q=>.inr (χ s.below.size q)),s.below.trans (hb.mono s.below.size),s.m.up hs hh hb hn,s.base,⟨cs,(hb.block _ (Array.getElem?_eq_some_iff.1 w1).1).trans w1,w2,w3,w4⟩,off _ (Array.getElem?_eq_some_iff.1 w1).1 s.wbp,s.wbb,⟨xs,⟨h1.1,?_⟩,h2.mono fun cs x q=>?_⟩,fun b e=>⟨off b (hlt b e) (s.ownp b e).1,(s.ownp b e).2⟩⟩
 ·rcases h1.2 with hn |⟨g,cap,cur,rfl,hb0,hgg,rest⟩
  ·exact .inl hn
  ·exact .inr ⟨g,cap,cur,rfl,hb0,(hb.block g (Array.getElem?_eq_some_iff.1 hgg).1).trans hgg,rest⟩
 ·haveI:Le hp h':=⟨hs⟩
  exact Iv.to q
theorem BlSt.drew (s:BlSt w h n WB T E M i row W hp g cp v):BlSt w h n WB T E M i row W.drew hp g cp v:=s.call (gt W) (s.m.has.below (gt W)) (Sub.refl _) (fun _ h=>.inl h)
theorem BlSt.alloc (s:BlSt w h n WB T E M i row W hp g cp v) (o:Obj):BlSt w h n WB T E M i row (W.alloc o) hp g cp v:=
 have hb:Below W.heap.size W (W.alloc o):=(Below.refl _ W).alloc (η _) _
 s.call hb (s.m.has.below hb) (Sub.refl _) (fun _ h=>.inl h)
theorem BlSt.cell (s:BlSt w h n WB T E M i row W hp g cp v) (hi:i < n):W.cell? ⟨WB,i,none⟩=some v:=by
 obtain⟨cs,w1,w2,w3,w4⟩:=s.wb
 rw[bx_cell w1];simpa using w3 hi
theorem BlSt.next (s:BlSt w h n WB T E M i row W hp g cp v) (hi:i < n) (hr:row.length=n) (hM:∀j x,row[j]?=some x→M i j=x):∃g' cp',BlSt w h n WB T E M (i+1) [] W hp g' cp' (.slice none 0 0):=by
  obtain⟨xs,h1,h2⟩:=s.own
  obtain⟨cs,w1,w2,w3,w4⟩:=s.wb
  rcases h1.2 with⟨rfl,e⟩ |⟨b,cap,cur,rfl,hb0,hgg,hcap,hmax,hsz,htk⟩
  · omega
  obtain⟨p1,p2,p3⟩:=s.ownp b rfl
  rw[hr] at hcap htk
  have hgi:∀a,a < i→(if a=i then b else g a)=g a:=fun a ha=>if_neg (by omega)
  refine⟨fun a=>if a=i then b else g a,fun a=>if a=i then cap else cp a,s.sub,s.new,s.below,⟨s.m.has,fun a ha=>?_,fun a ha=>?_,fun a ha=>?_,fun a b' ha hb' e=>?_⟩,fun a ha=>?_,⟨cs,w1,w2,fun h'=>w4 _ (by omega) h',fun a h1 h2=>w4 a (by omega) h2⟩,s.wbp,s.wbb,⟨[],World.ownsRow_nil _ _ _ _,RowOf.nil⟩,fun b e=>by simp[Value.ownBlock] at e⟩
  · by_cases e:a=i
    · subst e
      rw[if_pos rfl,if_pos rfl,bx_cell w1,Nat.zero_add,←hr];simpa using w3 hi
    · rw[if_neg e,if_neg e];exact s.m.outer a (by omega)
  · by_cases e:a=i
    · subst e
      rw[if_pos rfl]
      refine⟨cur.toList,E,by simpa using hgg,by simp;rw[hsz];exact ψ _ hcap,fun j hj=>?_⟩
      obtain⟨x,hx⟩:∃x,row[j]?=some x:=⟨_,List.getElem?_eq_getElem (by omega)⟩
      rw[hM j x hx]
      have q:=h2.2 j x hx
      unfold Qi at q
      rw[←htk] at q
      have e:((cur.toList.take (n*8)).drop (j*8)).take 8=(cur.toList.drop (j*8)).take 8:=by
        rw[List.drop_take,List.take_take,Nat.min_eq_left (by omega)]
      rwa[e] at q
    · rw[if_neg e];exact s.m.row a (by omega)
  · by_cases e:a=i
    · subst e;rw[if_pos rfl];exact⟨p1,p2⟩
    · rw[if_neg e];exact s.m.priv a (by omega)
  · by_cases e1:a=i
    · by_cases e2:b'=i
      · omega
      · rw[if_pos e1,if_neg e2] at e;exact absurd e (p3 b' (by omega))
    · by_cases e2:b'=i
      · rw[if_neg e1,if_pos e2] at e;exact absurd e.symm (p3 a (by omega))
      · rw[if_neg e1,if_neg e2] at e;exact s.m.inj a b' (by omega) (by omega) e
  · by_cases e:a=i
    · rw[if_pos e];exact hb0
    · rw[if_neg e];exact s.base a (by omega)
theorem Mx.keptO {W:World} {hp:PH} {WB off r n:Nat} {g cp:Nat→Nat} {M:Nat→Nat→RI} (m:Mx W hp WB off r n g cp M) {W':World} {o:Option Nat} (hg:W.grownBy W' o) (ho:∀b,o=some b→hp b=none∧b≠WB∧∀i,i < r→b≠g i):Mx W' hp WB off r n g cp M:=by
 refine⟨m.has.kept hg (fun r e=>(ho r e).1),fun i hi=>hg.cell (a:=⟨WB,off+i,none⟩) (m.outer i hi) (fun e=>(ho _ e.symm).2.1 rfl),fun i hi=>?_,m.priv,m.inj⟩
 obtain⟨cs,T,k1,k2,k3⟩:=m.row i hi
 exact⟨cs,T,(hg.block _ (Array.getElem?_eq_some_iff.1 k1).1 (fun e=>(ho _ e.symm).2.2 i hi rfl)).trans k1,k2,k3⟩
theorem BlSt.wbAt (s:BlSt w h n WB T E M i row W hp g cp v) {w1:World} (hg:W.grownBy w1 v.ownBlock):∃ds:List Value,w1.heap[WB]?=some (.cells ds.toArray T (0,0))∧ds.length=n:=by
 obtain⟨ds,w1',w2,w3,w4⟩:=s.wb
 exact⟨ds,(hg.block WB (Array.getElem?_eq_some_iff.1 w1').1 (fun e=>(s.ownp _ e.symm).2.1 rfl)).trans w1',w2⟩
theorem BlSt.app (s:BlSt w h n WB T E M i row W hp g cp v) (hi:i < n) {w1 W3:World} {v':Value} {xs cs:List Value} {x:RI} (hR:RowOf 8 (Qi hp) xs row) (hxl:xs.length=row.length*8) (hcs:cs.length=8) (q:Qi hp cs x)
  (hown:w1.ownsRow w.heap.size E 8 v' (row.length+1) (xs ++cs)) (hg:W.grownBy w1 v.ownBlock) (hat:v'.ownBlock=v.ownBlock∨v'.ownBlock=some W.heap.size)
  (h3:∀ds,w1.heap[WB]?=some (.cells (ds:List Value).toArray T (0,0))→W3.heap[WB]?=some (.cells (ds.set i v').toArray T (0,0))) (hg3:w1.grownBy W3 (some WB)):BlSt w h n WB T E M i (row ++[x]) W3 hp g cp v':=by
 obtain⟨ds,w1',w2,w3,w4⟩:=s.wb
 have hWB:=(Array.getElem?_eq_some_iff.1 w1').1
 have m1:Mx w1 hp WB 0 i n g cp M:=s.m.keptO hg s.ownp
 have p0:∀b,v'.ownBlock=some b→hp b=none∧b≠WB∧∀a,a < i→b≠g a:=fun b e=>by
  rcases hat with k |k
  ·exact s.ownp b (by rw[←k];exact e)
  ·rw[k] at e
   obtain rfl:W.heap.size=b:=Option.some.inj e
   refine⟨?_,by omega,fun a ha=>?_⟩
   ·cases ex:hp W.heap.size with
    |none=>rfl
    |some cs'=>have:=s.m.has.lt ex;omega
   ·have:=s.m.lt ha;omega
 have hbW:=(hg.block WB hWB (fun e=>(s.ownp _ e.symm).2.1 rfl)).trans w1'
 have m3:Mx W3 hp WB 0 i n g cp M:=by
  refine⟨m1.has.kept hg3 (fun r e=>by cases e;exact s.wbp),fun a ha=>?_,fun a ha=>?_,m1.priv,m1.inj⟩
  ·have:=m1.outer a ha
   rw[bx_cell hbW] at this
   rw[bx_cell (h3 _ hbW),List.getElem?_toArray,List.getElem?_set_ne (by omega)]
   simpa using this
  ·obtain⟨cs,T,k1,k2,k3⟩:=m1.row a ha
   exact⟨cs,T,(hg3.block _ (Array.getElem?_eq_some_iff.1 k1).1 (fun e=>(m1.priv a ha).2 (Option.some.inj e))).trans k1,k2,k3⟩
 have hob:∀b,v.ownBlock=some b→w.heap.size≤b:=fun b e=>by
  obtain⟨ys,h1,_⟩:=s.own
  exact(h1.lt b e).1
 refine⟨s.sub,s.new,(s.below.grown hg s.below.size hob).grown hg3 (χ s.below.size hg.size) (fun k e=>by cases e;exact s.wbb),m3,s.base,⟨_,h3 _ hbW,by simpa using w2,fun _=>?_,fun a h1 h2=>?_⟩,s.wbp,s.wbb,⟨xs ++cs,?_,?_⟩,p0⟩
 ·rw[List.getElem?_set_self (by omega)]
 ·rw[List.getElem?_set_ne (by omega)];exact w4 a h1 h2
 ·rw[qAp,List.length_singleton]
  exact hown.kept hg3 (by
   cases e:v'.ownBlock with
   |none=>exact .inl rfl
   |some b=>exact .inr (fun e'=>(p0 b e).2.1 (Option.some.inj e')))
 ·have:=hR.app hcs q []
  rwa[List.append_nil,qAr (by omega)] at this
end
open Go.Proofs Go.Proofs.YtdhfkmaejkgceaaGreatDoor
open Go.ChangeShapes Go.WideShapes Go.ChangeAt Go.RowKit
theorem unIs:Tryz.prog.underlying 42=some (.slice 41):=by kernel_rfl
theorem unIm:Tryz.prog.underlying 22=some (.slice 42):=by kernel_rfl
theorem ceIs:Tryz.prog.cellsOf 42=1:=by kernel_rfl
theorem at_spot {h:PH} {a:Addr} {v:Value} (h1:h.at a=some v):a=⟨a.block,a.off,none⟩:=by
 cases a with
 | mk b o s=>
  cases s with
  |none=>rfl
  |some q=>simp[PH.at] at h1
theorem adr0 (a:Addr):a.add 0=a:=by unfold Addr.add;rw[if_pos rfl]
theorem adrN (b o k:Nat):(⟨b,o,none⟩:Addr).add k=⟨b,o+k,none⟩:=by
 unfold Addr.add
 split<;>simp_all
section
variable {H:Type} {enc:TypeId×Value→H} {W:World} {sp:Nat→Bool} {held:Bool}
theorem open_ivs {fuel:Nat} {v:Value} {x:DataW H×List MemPlace} (h:DataW.trod enc Tryz.prog W 0 sp held fuel 42 [v]=some x) {B:Nat} (hB:B≤1048576) (hk:Rows.uptoBulk x.1≤B):
  ∃(row:List RI) (a:Option Addr) (c:Nat) (C:Nat→List Value),v=.slice a row.length c∧row.length≤2^30∧∀j y,row[j]?=some y→ivC (C j)∧Iv (pub W) (.agg (C j).toArray) y∧∃rb ro,a=some ⟨rb,ro,none⟩∧∀(t:Nat) u,(C j)[t]?=some u→(pub W).at ⟨rb,ro+j*8+t,none⟩=some u:=by
 rcases DataW.trod_slice unIs h with⟨e,_⟩ |⟨a,len,cap,elems,rest,n,_,e,rfl,_,hl,hm,hlen,hel,_,_⟩
 ·cases e
  exact⟨[],none,0,fun _=>[],rfl,by simp,fun j s h=>by simp at h⟩
 cases e
 simp only[Rows.uptoBulk] at hk
 have b1:=bulk_len (H:=H) (elems.map (·.1))
 rw[List.length_map,hlen] at b1
 obtain⟨l,hll,hP⟩:=list_of (fun j (s:RI)=>∃cs:List Value,ivC cs∧Iv (pub W) (.agg cs.toArray) s∧∀(t:Nat) u,cs[t]?=some u→(pub W).at ((a.add (j*8)).add t)=some u) len fun i hi=>by
  have he:=hel i hi
  obtain⟨y,hy⟩:∃y,elems[i]?=some y:=⟨_,List.getElem?_eq_getElem (by omega)⟩
  rw[hy,Option.bind_eq_some_iff,ce26] at he
  obtain⟨cs,hc,ht⟩:=he
  have hb:=bulk_mem (d:=y.1) (l:=elems.map (·.1)) (List.mem_map.2 ⟨y,List.mem_of_getElem? hy,rfl⟩)
  obtain⟨z,hz⟩:=open_iv ht hB (by omega)
  have hc':=World.cells?_some hc
  obtain⟨_,_,_,_,_,_,_,_,_,_,_,_,e,_,_⟩:=hz.sa
  refine⟨z,cs,?_,hz,fun t u hu=>?_⟩
  ·have e:cs=_:=congrArg Array.toList (Value.agg.inj e)
   exact⟨_,_,_,_,_,_,_,_,_,_,_,_,_,_,_,_,e⟩
  ·have e8:cs.length=8:=by have e:cs=_:=congrArg Array.toList (Value.agg.inj e);rw[e];rfl
   have:t < 8:=by have:=(List.getElem?_eq_some_iff.1 hu).1;omega
   rw[pub_at,hc'.2.2 t this]
   exact hu
 have hC:∀j,∃cs:List Value,∀s,l[j]?=some s→ivC cs∧Iv (pub W) (.agg cs.toArray) s∧∀(t:Nat) u,cs[t]?=some u→(pub W).at ((a.add (j*8)).add t)=some u:=fun j=>by
  cases e:l[j]? with
  |none=>exact⟨[],fun s h=>by cases h⟩
  |some s=>obtain⟨cs,k⟩:=hP j s e;exact⟨cs,fun s' h=>by cases h;exact k⟩
 obtain⟨C,hC⟩:=Classical.axiomOfChoice hC
 refine⟨l,some a,cap,C,by rw[hll],by omega,fun j y hj=>?_⟩
 obtain⟨k1,k2,k3⟩:=hC j y hj
 refine⟨k1,k2,?_⟩
 have hsp:a=⟨a.block,a.off,none⟩:=by
  obtain⟨s0,e0⟩:∃s0,l[0]?=some s0:=⟨_,List.getElem?_eq_getElem (by have:=(List.getElem?_eq_some_iff.1 hj).1;omega)⟩
  obtain⟨⟨_,_,_,_,_,_,_,_,_,_,_,_,_,_,_,_,e⟩,_,k4⟩:=hC 0 s0 e0
  have:=k4 0 _ (by rw[e];rfl)
  rw[Nat.zero_mul,adr0,adr0] at this
  exact at_spot this
 refine⟨a.block,a.off,by rw[←hsp],fun t u hu=>?_⟩
 have:=k3 t u hu
 rwa[hsp,adrN,adrN] at this
theorem open_mat {fuel:Nat} {v:Value} {x:DataW H×List MemPlace} (h:DataW.trod enc Tryz.prog W 0 sp held fuel 22 [v]=some x) {B:Nat} (hB:B≤1048576) (hk:Rows.uptoBulk x.1≤B):
  ∃L:List (List RI),Matv (pub W) v L:=by
 rcases DataW.trod_slice unIm h with⟨e,_⟩ |⟨a,len,cap,elems,rest,n,_,e,rfl,_,hl,hm,hlen,hel,_,_⟩
 ·cases e
  exact⟨[],none,0,fun _=>none,fun _=>0,fun _ _=>[],rfl,by simp,fun i s h=>by simp at h⟩
 cases e
 simp only[Rows.uptoBulk] at hk
 have b1:=bulk_len (H:=H) (elems.map (·.1))
 rw[List.length_map,hlen] at b1
 obtain⟨l,hll,hP⟩:=list_of (fun i (row:List RI)=>∃(ra:Option Addr) (c:Nat) (C:Nat→List Value),row.length≤2^30∧(pub W).at (a.add i)=some (.slice ra row.length c)∧∀j y,row[j]?=some y→ivC (C j)∧Iv (pub W) (.agg (C j).toArray) y∧∃rb ro,ra=some ⟨rb,ro,none⟩∧∀(t:Nat) u,(C j)[t]?=some u→(pub W).at ⟨rb,ro+j*8+t,none⟩=some u) len fun i hi=>by
  have he:=hel i hi
  obtain⟨y,hy⟩:∃y,elems[i]?=some y:=⟨_,List.getElem?_eq_getElem (by omega)⟩
  rw[hy,Option.bind_eq_some_iff,ceIs] at he
  obtain⟨cs,hc,ht⟩:=he
  have hb:=bulk_mem (d:=y.1) (l:=elems.map (·.1)) (List.mem_map.2 ⟨y,List.mem_of_getElem? hy,rfl⟩)
  have hc':=World.cells?_some hc
  obtain⟨c0,rfl⟩:∃c0,cs=[c0]:=by
   match cs,hc'.1 with
   |[c0],_=>exact⟨c0,rfl⟩
  obtain⟨row,ra,c,C,rfl,k1,k2⟩:=open_ivs ht hB (by omega)
  refine⟨row,ra,c,C,k1,?_,k2⟩
  have:=hc'.2.2 0 (by omega)
  rw[pub_at,show a.add i=(a.add (i*1)).add 0 by rw[adr0,qAz]]
  exact this
 have hC:∀i,∃t:Option Addr×Nat×(Nat→List Value),∀row,l[i]?=some row→row.length≤2^30∧(pub W).at (a.add i)=some (.slice t.1 row.length t.2.1)∧∀j y,row[j]?=some y→ivC (t.2.2 j)∧Iv (pub W) (.agg (t.2.2 j).toArray) y∧∃rb ro,t.1=some ⟨rb,ro,none⟩∧∀(t':Nat) u,(t.2.2 j)[t']?=some u→(pub W).at ⟨rb,ro+j*8+t',none⟩=some u:=fun i=>by
  cases e:l[i]? with
  |none=>exact⟨(none,0,fun _=>[]),fun s h=>by cases h⟩
  |some row=>obtain⟨ra,c,C,k⟩:=hP i row e;exact⟨(ra,c,C),fun s' h=>by cases h;exact k⟩
 obtain⟨F,hF⟩:=Classical.axiomOfChoice hC
 refine⟨l,some a,cap,fun i=>(F i).1,fun i=>(F i).2.1,fun i=>(F i).2.2,by rw[hll],by omega,fun i row hi=>?_⟩
 obtain⟨k1,k2,k3⟩:=hF i row hi
 have hsp:a=⟨a.block,a.off,none⟩:=by
  obtain⟨s0,e0⟩:∃s0,l[0]?=some s0:=⟨_,List.getElem?_eq_getElem (by have:=(List.getElem?_eq_some_iff.1 hi).1;omega)⟩
  have:=(hF 0 s0 e0).2.1
  rw[adr0] at this
  exact at_spot this
 refine⟨k1,a.block,a.off,by rw[←hsp],?_,k3⟩
 rw[hsp,adrN] at k2
 exact k2
end
open Go.Proofs
set_option maxHeartbeats 8000000
def okS (l:List Sd1) (i:Nat):Bool:=match l[i]? with
 | some x=>nameB x.1 && (decide (i=0) || (match l[i - 1]? with
  |some y=>Op.bytesLess y.1.toList x.1.toList
  |none=>true)) && !x.2.big && !x.2.set.void
 |none=>true
def okB (l:List Sd1):Bool:=decide (l.length≤6) && (List.range l.length).all (okS l)
theorem okB_no {l:List Sd1} {i:Nat} (hi:i < l.length) (h:okS l i=false):okB l=false:=by
 unfold okB
 rw[Bool.and_eq_false_iff]
 right
 exact List.all_eq_false.2 ⟨i,List.mem_range.2 hi,by rw[h];decide⟩
theorem okB_yes {l:List Sd1} (hl:l.length≤6) (h:∀j,j < l.length→okS l j=true):okB l=true:=by
 unfold okB
 rw[decide_eq_true hl,Bool.true_and]
 exact qBd.2 fun j hj=>h j (List.mem_range.1 hj)
theorem BValid_spec {h0 h:PH} [Le h0 h] {v:Value} {l:List Sd1} (hv:Boxv h0 v l):Spec mach 27 #[v] h (fun r _=>r=.bool (okB l)) NP:=by
  obtain⟨a,c,rfl,hl,k⟩:=hv
  by_cases h6:(l.length:Int) > 6
  · have:okB l=false:=by unfold okB;rw[decide_eq_false (by omega)];rfl
    rw[this]
    refine Spec.go [] Tryz.func27 rfl rfl (by kernel_rfl) fun C _=>?_
    try simp(maxSteps:=999999) (disch:=omega) only[go_sem,ξ,ζ,h6,decide_true]
  · refine Spec.go [] Tryz.func27 rfl rfl (by kernel_rfl) fun C _=>?_
    try simp(maxSteps:=999999) (disch:=omega) only[go_sem,ξ,ζ,h6,decide_false]
    refine lp [] (fun i:Nat=>⟨[(0,.v (.slice a l.length c)),(10,.v (.slice a l.length c)),(11,.v (.int .i64 l.length)),(12,.v (.int .i64 i))],[]⟩) (fun i h'=>Le h0 h'∧i≤l.length∧∀j,j < i→okS l j=true) (fun i=>l.length - i) 0 ?_ ⟨inferInstance,qBh _,fun j hj=>absurd hj (by omega)⟩ (by kernel_rfl) ?_
    · try simp(maxSteps:=999999) (disch:=omega) only[go_sem,ξ,ζ]
      all_goals rfl
    rintro i h2 ⟨le2,hi,hj⟩
    by_cases hlt:(i:Int) < l.length
    · obtain⟨x,hx⟩:∃x,l[i]?=some x:=⟨_,List.getElem?_eq_getElem (by omega)⟩
      obtain⟨ad,b1,a1,m1,c1,a2,m2,c2,b2,a3,m3,c3,a4,m4,c4,e,u,rfl,hat,hiv⟩:=k i x hx
      try simp(maxSteps:=999999) (disch:=omega) only[go_sem,ξ,ζ,hlt,decide_true]
      refine Exists.intro [_,_,_,_,_,_,_,_,_] (And.intro rfl (And.intro (fun j v hj=>le2.sub.at (hat j v hj)) ?_))
      try simp(maxSteps:=999999) (disch:=omega) only[go_sem,ξ,ζ]
      refine caN (by exact IsName_spec) ?_;rintro v3 h3 s3 rfl
      try simp(maxSteps:=999999) (disch:=omega) only[go_sem,ξ,ζ]
      have big:x.2.big=true→okS l i=false:=fun g=>by unfold okS;rw[hx];simp[g]
      have voi:x.2.set.void=true→okS l i=false:=fun g=>by unfold okS;rw[hx];simp[g]
      have nam:nameB x.1=false→okS l i=false:=fun g=>by unfold okS;rw[hx];simp[g]
      have hi':i < l.length:=by omega
      cases hn:nameB x.1 with
      | false=>
        rw[okB_no hi' (nam hn)]
        try simp(maxSteps:=999999) (disch:=omega) only[go_sem,ξ,ζ,hn]
      | true=>
        have kE:=fun {h} [Le h2 h]=>sI (h:=h) (hiv.to (h':=h2))
        unfold RI.bo at kE
        have nxt:(decide (i=0) || (match l[i - 1]? with |some y=>Op.bytesLess y.1.toList x.1.toList |none=>true))=true→x.2.big=false→x.2.set.void=false→okS l i=true:=fun g1 g2 g3=>by
          unfold okS;rw[hx]
          show(nameB x.1 && _ && _ && _)=true
          rw[hn,g1,g2,g3];rfl
        by_cases i0:(i:Int) > 0
        · obtain⟨y,hy⟩:∃y,l[i - 1]?=some y:=⟨_,List.getElem?_eq_getElem (by omega)⟩
          obtain⟨ad',_,_,_,_,_,_,_,_,_,_,_,_,_,_,_,_,ea,hat',_⟩:=k (i - 1) y hy
          cases ea
          have hyat:h0.at (ad.add ((i - 1)*9))=some (.string y.1):=hat' 0 _ rfl
          have ew:((i:Int) - 1).toNat=i - 1:=by omega
          try simp(maxSteps:=999999) (disch:=omega) only[go_sem,ξ,ζ,hn,i0,decide_true,ew]
          refine aE ((inferInstance:Le h0 h3).sub.at hyat) ?_
          try simp(maxSteps:=999999) (disch:=omega) only[go_sem,ξ,ζ]
          cases hB:Op.bytesLess y.1.toList x.1.toList with
          | false=>
            rw[okB_no hi' (by unfold okS;rw[hx];simp only[hy,hB];rw[decide_eq_false (by omega)];simp)]
            try simp(maxSteps:=999999) (disch:=omega) only[go_sem,ξ,ζ,hB]
          | true=>
            try simp(maxSteps:=999999) (disch:=omega) only[go_sem,ξ,ζ,hB]
            cases gb:x.2.big with
            | true=>
              rw[gb,cond_true] at kE
              rw[okB_no hi' (big gb)]
              refine caN (by exact kE) ?_;rintro v4 h4 s4 q4;obtain rfl:v4=_:=q4
              try simp(maxSteps:=999999) (disch:=omega) only[go_sem,ξ,ζ]
            | false =>
              rw[gb,cond_false] at kE
              cases gv:x.2.set.void with
              | true=>
                rw[gv] at kE
                rw[okB_no hi' (voi gv)]
                refine caN (by exact kE) ?_;rintro v4 h4 s4 q4;obtain rfl:v4=_:=q4
                try simp(maxSteps:=999999) (disch:=omega) only[go_sem,ξ,ζ]
              | false=>
                rw[gv] at kE
                refine caN (by exact kE) ?_;rintro v4 h4 s4 q4;obtain rfl:v4=_:=q4
                try simp(maxSteps:=999999) (disch:=omega) only[go_sem,ξ,ζ]
                dsimp only[lpE];refine⟨i+1,?_,⟨inferInstance,by omega,fun j k=>?_⟩,by omega⟩
                · try simp(maxSteps:=999999) (disch:=omega) only[go_sem,ξ,ζ]
                  all_goals rfl
                · rcases qBj j i with g |g
                  · exact hj j g
                  · obtain rfl:j=i:=by omega
                    exact nxt (by rw[hy];simp[hB]) gb gv
        · try simp(maxSteps:=999999) (disch:=omega) only[go_sem,ξ,ζ,hn,i0,decide_false]
          cases gb:x.2.big with
          | true=>
            rw[gb,cond_true] at kE
            rw[okB_no hi' (big gb)]
            refine caN (by exact kE) ?_;rintro v4 h4 s4 q4;obtain rfl:v4=_:=q4
            try simp(maxSteps:=999999) (disch:=omega) only[go_sem,ξ,ζ]
          | false =>
            rw[gb,cond_false] at kE
            cases gv:x.2.set.void with
            | true=>
              rw[gv] at kE
              rw[okB_no hi' (voi gv)]
              refine caN (by exact kE) ?_;rintro v4 h4 s4 q4;obtain rfl:v4=_:=q4
              try simp(maxSteps:=999999) (disch:=omega) only[go_sem,ξ,ζ]
            | false=>
              rw[gv] at kE
              refine caN (by exact kE) ?_;rintro v4 h4 s4 q4;obtain rfl:v4=_:=q4
              try simp(maxSteps:=999999) (disch:=omega) only[go_sem,ξ,ζ]
              dsimp only[lpE];refine⟨i+1,?_,⟨inferInstance,by omega,fun j k=>?_⟩,by omega⟩
              · try simp(maxSteps:=999999) (disch:=omega) only[go_sem,ξ,ζ]
                all_goals rfl
              · rcases qBj j i with g |g
                · exact hj j g
                · obtain rfl:j=i:=by omega
                  exact nxt (by rw[decide_eq_true (by omega)];rfl) gb gv
    · rw[okB_yes (by omega) (fun j k=>hj j (by omega))]
      try simp(maxSteps:=999999) (disch:=omega) only[go_sem,ξ,ζ,hlt,decide_false]


theorem N32.rw {h:PH} {neg:Bool} {v w:Value} {n d:Nat} (hv:N32 h v n) (hw:N32 h w d) (bn:bl n≤2^30) (bd:bl d≤2^30):Rw h (.agg #[.bool neg,v,w]) neg n d:=by
 obtain⟨a,c,xs,rfl,ha,hx,rfl⟩:=hv.out
 obtain⟨a',c',ys,rfl,ha',hy,rfl⟩:=hw.out
 have l1:=dj (val 4294967296 xs)
 have l2:=dj (val 4294967296 ys)
 rw[hx] at l1
 rw[hy] at l2
 exact⟨a,c,xs,a',c',ys,rfl,ha,ha',rfl,rfl,by omega,by omega⟩
theorem rH {h0 h:PH} [Le h0 h] {v:Value} {n:Nat} (hv:N32 h0 v n):Spec mach 148 #[v] h (fun v h'=>N32 h' v n) NP:=by
 obtain⟨a,c,xs,rfl,ha,_,rfl⟩:=hv.out
 exact Of_N ha
theorem nameX:nameB ⟨#[120]⟩=true:=by decide+kernel
theorem Kids_x {h:PH}:Spec mach 267 #[.int .i64 2] h (fun v _=>v=.tuple #[.int .i64 0,.bool true]) NP:=by
 refine Spec.go [] Tryz.func267 rfl rfl (by kernel_rfl) fun C _=>?_
 try simp(maxSteps:=999999) (disch:=omega) only[go_sem,ξ,ζ]
theorem Kids_a {h:PH}:Spec mach 267 #[.int .i64 5] h (fun v _=>v=.tuple #[.int .i64 2,.bool true]) NP:=by
 refine Spec.go [] Tryz.func267 rfl rfl (by kernel_rfl) fun C _=>?_
 try simp(maxSteps:=999999) (disch:=omega) only[go_sem,ξ,ζ]
theorem Fields_x {h:PH}:Spec mach 225 #[exXv] h (fun v _=>v=.bool true) NP:=by
 unfold exXv
 refine Spec.go [] Tryz.func225 rfl rfl (by kernel_rfl) fun C _=>?_
 try simp(maxSteps:=999999) (disch:=omega) only[go_sem,ξ,ζ]
 refine caN (by exact Kids_x) ?_;rintro v1 h1 s1 rfl
 try simp(maxSteps:=999999) (disch:=omega) only[go_sem,ξ,ζ]
 refine caN (by exact IsName_spec) ?_;rintro v2 h2 s2 rfl
 try simp(maxSteps:=999999) (disch:=omega) only[go_sem,ξ,ζ,nameX]
 refine caN (by exact rH (N32.zero h2)) ?_;rintro v3 h3 s3 q3
 try simp(maxSteps:=999999) (disch:=omega) only[go_sem,ξ,ζ]
 refine caN (by exact bU q3) ?_;rintro v4 h4 s4 rfl
 try simp(maxSteps:=999999) (disch:=omega) only[go_sem,ξ,ζ]
 all_goals rfl
theorem Fields_a {h:PH} {b:Nat}:Spec mach 225 #[exAv b] h (fun v _=>v=.bool true) NP:=by
 unfold exAv
 refine Spec.go [] Tryz.func225 rfl rfl (by kernel_rfl) fun C _=>?_
 try simp(maxSteps:=999999) (disch:=omega) only[go_sem,ξ,ζ]
 refine caN (by exact Kids_a) ?_;rintro v1 h1 s1 rfl
 try simp(maxSteps:=999999) (disch:=omega) only[go_sem,ξ,ζ,beq_self_eq_true]
 refine caN (by exact rH (N32.zero h1)) ?_;rintro v3 h3 s3 q3
 try simp(maxSteps:=999999) (disch:=omega) only[go_sem,ξ,ζ]
 refine caN (by exact bU q3) ?_;rintro v4 h4 s4 rfl
 try simp(maxSteps:=999999) (disch:=omega) only[go_sem,ξ,ζ]
 all_goals rfl
theorem Count_x {h:PH} {d n:Int} (hd:0≤d∧d≤30) (hn:0≤n∧n < 300):Spec mach 168 #[exXv,.int .i64 d,.int .i64 n] h (fun v _=>v=.int .i64 (n+1)) NP:=by
 have k:=fun {h:PH}=>Fields_x (h:=h)
 unfold exXv at k ⊢
 have e1:¬n+1 > 300:=by omega
 have e2:¬d > 30:=by omega
 refine Spec.go [] Tryz.func168 rfl rfl (by kernel_rfl) fun C _=>?_
 try simp(maxSteps:=999999) (disch:=omega) only[go_sem,ξ,ζ,e1,e2,decide_false]
 refine caN (by exact k) ?_;rintro v1 h1 s1 rfl
 try simp(maxSteps:=999999) (disch:=omega) only[go_sem,ξ,ζ]
 refine lp [] (fun _:Nat=>⟨[(2,.v (.int .i64 (n+1))),(24,.v (.int .i64 0)),(25,.v (.int .i64 0))],[]⟩) (fun _ _=>True) (fun _=>0) 0 ?_ trivial (by kernel_rfl) ?_
 ·try simp(maxSteps:=999999) (disch:=omega) only[go_sem,ξ,ζ]
  all_goals rfl
 rintro i h2 _
 try simp(maxSteps:=999999) (disch:=omega) only[go_sem,ξ,ζ]
theorem kC_at {h0:PH} {b:Nat} (hb:kC b h0):∀i,i < 2→∀(j:Nat) v,xC7[j]?=some v→h0.at ((⟨b,i*7,none⟩:Addr).add j)=some v:=fun i hi j v hv=>by
 have hj:j < 7:=(List.getElem?_eq_some_iff.1 hv).1
 unfold kC at hb
 have:(⟨b,i*7,none⟩:Addr).add j=⟨b,i*7+j,none⟩:=by
  unfold Addr.add;split
  ·rename_i e;rw[e];rfl
  ·rfl
 rw[this]
 have e:h0.at ⟨b,i*7+j,none⟩=(xC7 ++xC7)[i*7+j]?:=by simp[PH.at,hb]
 rw[e]
 rcases(show i=0∨i=1 by omega) with rfl |rfl
 ·rw[List.getElem?_append_left (by show 0*7+j < 7;omega)];simpa using hv
 ·rw[List.getElem?_append_right (by show 7≤1*7+j;omega)]
  show xC7[1*7+j - 7]?=_
  rw[show 1*7+j - 7=j by omega];exact hv
theorem Count_a {h0 h:PH} [Le h0 h] {b:Nat} (hb:kC b h0):Spec mach 168 #[exAv b,.int .i64 1,.int .i64 0] h (fun v _=>v=.int .i64 3) NP:=by
 have k:=fun {h:PH}=>Fields_a (h:=h) (b:=b)
 have hat:=kC_at hb
 unfold exAv at k ⊢
 refine Spec.go [] Tryz.func168 rfl rfl (by kernel_rfl) fun C _=>?_
 try simp(maxSteps:=999999) (disch:=omega) only[go_sem,ξ,ζ]
 refine caN (by exact k) ?_;rintro v1 h1 s1 rfl
 try simp(maxSteps:=999999) (disch:=omega) only[go_sem,ξ,ζ]
 refine lp [] (fun i:Nat=>⟨[(1,.v (.int .i64 1)),(2,.v (.int .i64 (i+1:Nat))),(23,.v (.slice (some ⟨b,0,none⟩) 2 2)),(24,.v (.int .i64 2)),(25,.v (.int .i64 i))],[]⟩) (fun i h'=>Le h0 h'∧i≤2) (fun i=>2 - i) 0 ?_ ⟨inferInstance,by decide⟩ (by kernel_rfl) ?_
 ·try simp(maxSteps:=999999) (disch:=omega) only[go_sem,ξ,ζ]
  all_goals (constructor<;>rfl)
 rintro i h2 ⟨le2,hi⟩
 by_cases hl:(i:Int) < 2
 ·have kx:=fun {h:PH}=>Count_x (h:=h) (d:=2) (n:=(i+1:Nat)) (by omega) (by omega)
  unfold exXv at kx
  have e3:¬((i+1:Nat):Int)+1 > 300:=by omega
  try simp(maxSteps:=999999) (disch:=omega) only[go_sem,ξ,ζ,hl,decide_true]
  refine Exists.intro [.int .i64 2,.int .i64 0,.bool false,.slice none 0 0,.slice none 0 0,.string ⟨#[120]⟩,.slice none 0 0] (And.intro rfl (And.intro (fun j v hj=>le2.sub.at (hat i (by omega) j v hj)) ?_))
  try simp(maxSteps:=999999) (disch:=omega) only[go_sem,ξ,ζ]
  refine caN (by exact kx) ?_;rintro v3 h3 s3 rfl
  try simp(maxSteps:=999999) (disch:=omega) only[go_sem,ξ,ζ,e3,decide_false]
  dsimp only[lpE];refine⟨i+1,?_,⟨inferInstance,by omega⟩,by omega⟩
  try simp(maxSteps:=999999) (disch:=omega) only[go_sem,ξ,ζ]
  all_goals rfl
 ·have e:i=2:=by omega
  subst e
  try simp(maxSteps:=999999) (disch:=omega) only[go_sem,ξ,ζ,hl,decide_false]
  all_goals rfl
theorem EValid_spec {h0 h:PH} [Le h0 h] {b:Nat} (hb:kC b h0):Spec mach 115 #[exAv b] h (fun v _=>v=.bool true) NP:=by
 have k:=fun {h} [Le h0 h]=>Count_a (h:=h) hb
 unfold exAv at k ⊢
 refine Spec.go [] Tryz.func115 rfl rfl (by kernel_rfl) fun C _=>?_
 try simp(maxSteps:=999999) (disch:=omega) only[go_sem,ξ,ζ]
 refine caN (by exact k) ?_;rintro v1 h1 s1 rfl
 try simp(maxSteps:=999999) (disch:=omega) only[go_sem,ξ,ζ]
theorem zC {h:PH} {a:Option Addr} {m c n:Nat} (r:N32 h (.slice a m c) n) (h0:n≠0) (h1:n < 4294967296):m=1∧∃ad,a=some ad∧h.at ad=some (.int .u32 n):=by
 have hW:W 4294967296 n=[n]:=by
  rw[W_pos (by decide) h0,qBi h1,Nat.div_eq_of_lt h1,ff]
 obtain⟨a',c',e,A⟩:=r
 rw[hW] at e A
 simp only[Value.slice.injEq,List.length_cons,List.length_nil] at e
 obtain⟨rfl,rfl,rfl⟩:=e
 obtain⟨ad,e1,e2⟩:=A.at_ 0 n rfl
 refine⟨rfl,ad,e1,?_⟩
 simpa[Addr.add] using e2
theorem E4 {h:PH} {a:Option Addr} {m c:Nat} (r:N32 h (.slice a m c) 0):m=0:=by
 obtain⟨a',c',e,A⟩:=r
 rw[ff] at e
 simp only[Value.slice.injEq,List.length_nil] at e
 exact e.2.1
end Go.Q
namespace Go.Q
open Go.Proofs Go.RowKit
set_option maxRecDepth 100000
set_option maxHeartbeats 8000000
theorem Vars_spec {h0 h:PH} [l0:Le h0 h] {b:Nat} (hb:kC b h0):Spec mach 116 #[exAv b] h (fun r h'=>∃ad c,r=.tuple #[.slice (some ad) 1 c,.int .i64 0]∧h'.at ad=some (.string ⟨#[120]⟩)) NP:=by
 refine⟨by kernel_rfl,fun w hw hg=>?_⟩
 have hb1:h b=some (xC7 ++xC7).toArray:=l0.sub _ _ hb
 obtain⟨T,f,hk⟩:=hw _ _ hb1
 have kV:∀m W,Below w.heap.size w W→CallsIn Fence.wide m Tryz.prog 115 #[exAv b] W fun e W'=>e=.returned (.bool true)∧Below W.heap.size W W':=fun m W hB=>by
  refine callsIn_wide.2 (((EValid_spec (h:=h) hb).run W (hw.below hB) hg).mono fun e W' hp=>?_)
  cases e with
  |returned v=>obtain⟨h',p1,_,_,_,rfl⟩:=hp;exact⟨rfl,p1⟩
  |panicked ch=>obtain⟨_,_,_,_,_,hp⟩:=hp;exact(hp:False).elim
  |outgrown=>exact(hp:False).elim
 refine(callsIn_wide.1 (vars_in ⟨(Array.getElem?_eq_some_iff.1 hk).1,T,f,hk⟩ kV)).mono fun e w' hp=>?_
 obtain⟨v,rfl,hr,hB⟩:=hp
 rcases hr.2 with⟨_,h1⟩ |⟨g,cap,cur,rfl,hge,hh,hn,_,hs,ht⟩
 ·cases h1
 ·have hgn:h g=none:=by
   cases e:h g with
   |none=>rfl
   |some cs=>have:=hw.lt e;omega
  refine⟨fun k=>if k=g then some cur else h k,hB,fun k cs hx=>?_,fun k cs hx=>?_,fun k hx=>?_,⟨g,0,none⟩,cap,rfl,?_⟩
  ·have hx:(if k=g then some cur else h k)=some cs:=hx
   by_cases e:k=g
   ·rw[if_pos e] at hx;cases hx;exact⟨_,_,e▸hh⟩
   ·rw[if_neg e] at hx;exact(hw.below hB) _ _ hx
  ·show(if k=g then some cur else h k)=some cs
   rw[if_neg (fun e=>by rw[e,hgn] at hx;cases hx)];exact hx
  ·have hx:(if k=g then some cur else h k)≠none:=hx
   by_cases e:k=g
   ·exact .inr (e▸hge)
   ·rw[if_neg e] at hx;exact .inl hx
  ·have e0:cur[0]?=some (.string ⟨#[120]⟩):=by
    have:=congrArg (·[0]?) ht
    simpa using this
   unfold PH.at
   simp[e0]
def x01:RI:=⟨false,0,0,false,1,0,false,false⟩
def l01:List Sd1:=[(⟨#[120]⟩,x01)]
theorem l01_ok:okB l01=true:=by decide+kernel
theorem l01_fnd:fnd l01 ⟨#[120]⟩=some 0:=by decide+kernel
theorem Ready_spec {h0 h:PH} [Le h0 h] {v:Value} {b:Nat} (hb:kC b h0) (hv:Boxv h0 v l01):Spec mach 68 #[exAv b,v,.int .i64 2] h (fun r _=>r=.int .i64 0) NP:=by
 have kE:=fun {h} [Le h0 h]=>EValid_spec (h:=h) hb
 have kB:=fun {h} [Le h0 h]=>BValid_spec (h:=h) hv
 have kN:=fun {h} [Le h0 h]=>Vars_spec (h:=h) hb
 have kI:=fun {h} [Le h0 h]=>Index_spec (h:=h) (s:=⟨#[120]⟩) hv
 rw[l01_ok] at kB
 rw[l01_fnd] at kI
 obtain⟨va,vm,vc,rfl⟩:=hv.sa
 unfold exAv at kE kN ⊢
 refine Spec.go [] Tryz.func68 rfl rfl (by kernel_rfl) fun C _=>?_
 try simp(maxSteps:=999999) (disch:=omega) only[go_sem,ξ,ζ]
 refine caN (by exact kE) ?_;rintro v1 h1 s1 rfl
 try simp(maxSteps:=999999) (disch:=omega) only[go_sem,ξ,ζ]
 refine caN (by exact kB) ?_;rintro v2 h2 s2 rfl
 try simp(maxSteps:=999999) (disch:=omega) only[go_sem,ξ,ζ]
 refine caN (by exact kN) ?_;rintro v3 h3 s3 ⟨ad,c,rfl,hat⟩
 try simp(maxSteps:=999999) (disch:=omega) only[go_sem,ξ,ζ]
 refine lp [] (fun i:Nat=>⟨[(1,.v (.slice va vm vc)),(31,.v (.slice (some ad) 1 c)),(32,.v (.int .i64 1)),(33,.v (.int .i64 i))],[]⟩) (fun i h'=>Le h0 h'∧h'.at ad=some (.string ⟨#[120]⟩)∧i≤1) (fun i=>1 - i) 0 ?_ ⟨inferInstance,hat,by decide⟩ (by kernel_rfl) ?_
 ·try simp(maxSteps:=999999) (disch:=omega) only[go_sem,ξ,ζ]
  all_goals rfl
 rintro i h4 ⟨le4,hat4,hi⟩
 by_cases hl:(i:Int) < 1
 ·obtain rfl:i=0:=by omega
  try simp(maxSteps:=999999) (disch:=omega) only[go_sem,ξ,ζ]
  refine aE hat4 ?_
  try simp(maxSteps:=999999) (disch:=omega) only[go_sem,ξ,ζ]
  refine caN (by exact kI) ?_;rintro v5 h5 s5 rfl
  try simp(maxSteps:=999999) (disch:=omega) only[go_sem,ξ,ζ]
  dsimp only[lpE];refine⟨1,?_,⟨inferInstance,s5.sub.at hat4,by omega⟩,by omega⟩
  ·try simp(maxSteps:=999999) (disch:=omega) only[go_sem,ξ,ζ]
   all_goals rfl
 ·try simp(maxSteps:=999999) (disch:=omega) only[go_sem,ξ,ζ,hl,decide_false]
end Go.Q
namespace Go.Q
open Go.Proofs Go.RowKit
set_option maxRecDepth 100000
set_option maxHeartbeats 8000000
theorem out01:x01.fin (Out.prec 2 (.ok (x01.set.hull (2:Int).toNat)))=.ok (.i (some 0) (some 1)):=by
 have e:x01.set=.i (some 0) (some 1):=by kernel_rfl
 have b:x01.big=false:=by decide+kernel
 have e1:gdown 0 2=0:=by decide+kernel
 have e2:gup 1 2=1:=by decide+kernel
 have e3:decide (NS.le 2048 (NS.i (some 0) (some 1)))=true:=by decide
 unfold RI.fin Out.prec
 rw[b,e]
 simp[NS.hull,bad,Out.fin,e1,e2,e3]
theorem out02:RI.fin2 (NS.i (some 0) (some 1)).ri (NS.i (some 0) (some 1)).ri (rnd 2 (NS.i (some 0) (some 1)).ri.set (NS.i (some 0) (some 1)).ri.set (.ok ((NS.i (some 0) (some 1)).ri.set.sum (NS.i (some 0) (some 1)).ri.set)))=.ok (.i (some 0) (some 2)):=by
 have l1:(NS.i (some 0) (some 1)).le 2048:=by decide
 have o1:(NS.i (some 0) (some 1)).ok:=by unfold NS.ok ordO;decide
 rw[NS.ri_set o1]
 unfold RI.fin2 rnd Out.prec
 rw[NS.ri_big l1]
 have e1:gdown (0+0) 2=0:=by decide+kernel
 have e2:gup (1+1) 2=2:=by decide+kernel
 have e3:decide (NS.le 2048 (NS.i (some 0) (some 2)))=true:=by decide
 simp[NS.sum,oadd,NS.void,bad,NS.hull,Out.fin,e1,e2,e3]
theorem Leaf_x {h0 h:PH} [Le h0 h] {v:Value} (hv:Boxv h0 v l01):Spec mach 118 #[exXv,v,.int .i64 2] h (fun r h'=>Ir h' r (.ok (.i (some 0) (some 1)))) NP:=by
 have kF:=fun {h} [Le h0 h]=>BFind_spec (h:=h) (s:=⟨#[120]⟩) hv
 unfold Fnd at kF
 rw[l01_fnd] at kF
 obtain⟨_,_,_,rfl⟩:=hv.sa
 unfold exXv
 refine Spec.go [] Tryz.func118 rfl rfl (by kernel_rfl) fun C _=>?_
 try simp(maxSteps:=999999) (disch:=omega) only[go_sem,ξ,ζ]
 refine caN (by exact kF) ?_;rintro v1 h1 s1 ⟨v2,x2,e2,rfl,q2⟩;obtain rfl:x2=(⟨#[120]⟩,x01):=(by cases e2;rfl);obtain⟨_,_,_,_,_,_,_,_,_,_,_,_,rfl,_,_⟩:=q2.sa
 try simp(maxSteps:=999999) (disch:=omega) only[go_sem,ξ,ζ]
 have kR:=fun {h} [Le h1 h]=>du (h:=h) (p:=2) q2
 rw[out01] at kR
 refine caN (by exact kR) ?_;rintro r h2 s2 r2;obtain⟨u,rfl,c2⟩:=r2;obtain⟨_,_,_,_,_,_,_,_,_,_,_,_,_,_,_,_,rfl,c3⟩:=c2.sa
 try simp(maxSteps:=999999) (disch:=omega) only[go_sem,ξ,ζ]
 exact⟨_,rfl,c3⟩
theorem Eval_x {h0 h:PH} [Le h0 h] {v:Value} (hv:Boxv h0 v l01):Spec mach 69 #[exXv,v,.int .i64 2] h (fun r h'=>Ir h' r (.ok (.i (some 0) (some 1)))) NP:=by
 have kL:=fun {h} [Le h0 h]=>Leaf_x (h:=h) hv
 obtain⟨_,_,_,rfl⟩:=hv.sa
 unfold exXv at kL ⊢
 refine Spec.go [] Tryz.func69 rfl rfl (by kernel_rfl) fun C _=>?_
 try simp(maxSteps:=999999) (disch:=omega) only[go_sem,ξ,ζ]
 refine caN (by exact kL) ?_;rintro r h2 s2 r2;obtain⟨u,rfl,c2⟩:=r2;obtain⟨_,_,_,_,_,_,_,_,_,_,_,_,_,_,_,_,rfl,c3⟩:=c2.sa
 try simp(maxSteps:=999999) (disch:=omega) only[go_sem,ξ,ζ]
 exact⟨_,rfl,c3⟩
theorem Kid_x {h0 h:PH} [Le h0 h] {v:Value} {b1 b2:Nat} (hv:Boxv h0 v l01) (hb1:h0 b1=some #[v]) (hb2:h0 b2=some #[.int .i64 2]):Spec mach 120 #[exXv,.pointer (some ⟨b1,0,none⟩),.pointer (some ⟨b2,0,none⟩)] h (fun r h'=>Ir h' r (.ok (.i (some 0) (some 1)))) NP:=by
 have kL:=fun {h} [Le h0 h]=>Eval_x (h:=h) hv
 have hb1:=(inferInstance:Le h0 h).sub _ _ hb1
 have hb2:=(inferInstance:Le h0 h).sub _ _ hb2
 obtain⟨_,_,_,rfl⟩:=hv.sa
 unfold exXv at kL ⊢
 refine Spec.go [] Tryz.func120 rfl rfl (by kernel_rfl) fun C _=>?_
 try simp(maxSteps:=999999) (disch:=omega) only[go_sem,ξ,ζ]
 refine aE (aK hb1) ?_
 try simp(maxSteps:=999999) (disch:=omega) only[go_sem,ξ,ζ]
 refine aE (aK hb2) ?_
 try simp(maxSteps:=999999) (disch:=omega) only[go_sem,ξ,ζ]
 refine caN (by exact kL) ?_;rintro r h2 s2 r2;obtain⟨u,rfl,c2⟩:=r2;obtain⟨_,_,_,_,_,_,_,_,_,_,_,_,_,_,_,_,rfl,c3⟩:=c2.sa
 try simp(maxSteps:=999999) (disch:=omega) only[go_sem,ξ,ζ]
 exact⟨_,rfl,c3⟩
def q01 (h:PH) (cs:List Value) (_:Unit):Prop:=Cv h (.agg cs.toArray) (.i (some 0) (some 1))
theorem Comb_a {h0 h:PH} [Le h0 h] {v:Value} {b b1 b2:Nat} (hb:kC b h0) (hv:Boxv h0 v l01) (hb1:h0 b1=some #[v]) (hb2:h0 b2=some #[.int .i64 2]):Spec mach 119 #[exAv b,.int .i64 2,.func (.func 120) #[] #[.pointer (some ⟨b1,0,none⟩),.pointer (some ⟨b2,0,none⟩)]] h (fun r h'=>Ir h' r (.ok (.i (some 0) (some 2)))) NP:=by
 have kK:=fun {h} [Le h0 h]=>Kid_x (h:=h) hv hb1 hb2
 unfold exAv exXv at*
 refine Spec.go [(10,.x),(22,.o [0,1,2,3,4,5,6,7,8,9,10,11])] Tryz.func119 rfl rfl (by kernel_rfl) fun C _=>?_
 try simp(maxSteps:=999999) (disch:=omega) only[go_sem,ξ,ζ]
 refine lpSl [(10,.x),(22,.o [0,1,2,3,4,5,6,7,8,9,10,11])] (fun x:Option (Nat×Nat×List Value)=>match x with |none=>⟨[(1,.v (.int .i64 2)),(2,.v (.func (.func 120) #[] #[.pointer (some ⟨b1,0,none⟩),.pointer (some ⟨b2,0,none⟩)])),(3,.p 0 0),(6,.p 1 0),(7,.v (.int .i64 0)),(22,.v (.slice (some ⟨b,0,none⟩) 2 2)),(23,.v (.int .i64 (2:Nat))),(8,.v (.slice none 0 0)),(24,.v (.int .i64 0))],[[.int .i64 5,.int .i64 0,.bool false,.slice none 0 0,.slice none 0 0,.string ⟨#[]⟩,.slice (some ⟨b,0,none⟩) 2 2],[.bool false,.slice none 0 0,.slice none 0 0,.bool false,.slice none 0 0,.slice none 0 0,.bool false,.bool false]]⟩ |some x=>⟨[(1,.v (.int .i64 2)),(2,.v (.func (.func 120) #[] #[.pointer (some ⟨b1,0,none⟩),.pointer (some ⟨b2,0,none⟩)])),(3,.p 0 0),(6,.p 1 0),(7,.v (.int .i64 0)),(22,.v (.slice (some ⟨b,0,none⟩) 2 2)),(23,.v (.int .i64 (2:Nat))),(8,.s 2 0 x.1 x.2.1),(24,.v (.int .i64 x.1))],[[.int .i64 5,.int .i64 0,.bool false,.slice none 0 0,.slice none 0 0,.string ⟨#[]⟩,.slice (some ⟨b,0,none⟩) 2 2],[.bool false,.slice none 0 0,.slice none 0 0,.bool false,.slice none 0 0,.slice none 0 0,.bool false,.bool false],x.2.2]⟩) (fun x h'=>Le h0 h'∧match x with |none=>True |some x=>1≤x.1∧x.1≤2∧x.1≤x.2.1∧x.2.1*8=x.2.2.length∧RowOf 8 (q01 h') x.2.2 (List.replicate x.1 ())) (fun x=>match x with |none=>2 |some x=>2 - x.1) none [0,1] ?_ ⟨inferInstance,trivial⟩ (by kernel_rfl) ?_
 ·try simp(maxSteps:=999999) (disch:=omega) only[go_sem,ξ,ζ]
  all_goals rfl
 rintro(_ |⟨i,cap,row⟩) h2 ⟨le2,hr⟩
 ·have hl:(0:Int) < ((2:Nat):Int):=by decide
  dsimp only
  try simp(maxSteps:=999999) (disch:=omega) only[go_sem,ξ,ζ,hl,decide_true]
  refine Exists.intro [_,_,_,_,_,_,_] (And.intro rfl (And.intro (fun j v hj=>le2.sub.at (kC_at hb 0 (by decide) j v hj)) ?_))
  try simp(maxSteps:=999999) (disch:=omega) only[go_sem,ξ,ζ]
  refine caN (by exact kK) ?_;rintro r h3 s3 r3;obtain⟨u,rfl,c3⟩:=r3;obtain⟨x1,x2,x3,x4,x5,x6,x7,x8,x9,x10,x11,x12,x13,x14,x15,x16,rfl,c3⟩:=c3.sa
  try simp(maxSteps:=999999) (disch:=omega) only[go_sem,ξ,ζ]
  refine AWP_app (sz:=8) [.o 0,.o 1,.o 2] 3 [.o 4] rfl (by kernel_rfl) (by kernel_rfl) (by rfl) (by decide) rfl rfl ?_
  try simp(maxSteps:=999999) (disch:=omega) only[go_sem,ξ,ζ,walk,appN,Nat.reduceMul]
  intro cap junk hc hj
  have hR:RowOf 8 (q01 h3) ([.bool x1,.slice x2 x3 x4,.slice x5 x6 x7,.bool x8,.slice x9 x10 x11,.slice x12 x13 x14,.bool x15,.bool x16] ++junk) (List.replicate 1 ()):=(RowOf.nil (sz:=8) (Q:=q01 h3) (row:=[])).app (cs:=[.bool x1,.slice x2 x3 x4,.slice x5 x6 x7,.bool x8,.slice x9 x10 x11,.slice x12 x13 x14,.bool x15,.bool x16]) (s:=()) rfl c3 junk
  dsimp only[lpS]
  refine⟨some (1,cap,[.bool x1,.slice x2 x3 x4,.slice x5 x6 x7,.bool x8,.slice x9 x10 x11,.slice x12 x13 x14,.bool x15,.bool x16] ++junk),[0,1,5],?_,⟨inferInstance,η 1,Nat.le_succ 1,hc,by simp;omega,hR⟩,η 2⟩
  try simp(maxSteps:=999999) (disch:=omega) only[go_sem,ξ,ζ]
  all_goals rfl
 ·obtain⟨g1,g2,g3,g4,g5⟩:=hr
  dsimp only at g1 g2 g3 g4 g5 ⊢
  by_cases hl:(i:Int) < ((2:Nat):Int)
  ·obtain rfl:i=1:=by omega
   try simp(maxSteps:=999999) (disch:=omega) only[go_sem,ξ,ζ,hl,decide_true]
   refine Exists.intro [_,_,_,_,_,_,_] (And.intro rfl (And.intro (fun j v hj=>le2.sub.at (kC_at hb 1 (by decide) j v hj)) ?_))
   try simp(maxSteps:=999999) (disch:=omega) only[go_sem,ξ,ζ]
   refine caN (by exact kK) ?_;rintro r h3 s3 r3;obtain⟨u,rfl,c3⟩:=r3;obtain⟨x1,x2,x3,x4,x5,x6,x7,x8,x9,x10,x11,x12,x13,x14,x15,x16,rfl,c3⟩:=c3.sa
   try simp(maxSteps:=999999) (disch:=omega) only[go_sem,ξ,ζ]
   refine AWP_app (sz:=8) [.o 0,.o 1,.o 2] 3 [.o 4] rfl (by kernel_rfl) (by kernel_rfl) (by rfl) (by decide) rfl rfl ?_
   try simp(maxSteps:=999999) (disch:=omega) only[go_sem,ξ,ζ,walk,appN,Nat.reduceMul]
   intro cap' junk hc hj
   have hR:RowOf 8 (q01 h3) (row.take 8 ++[.bool x1,.slice x2 x3 x4,.slice x5 x6 x7,.bool x8,.slice x9 x10 x11,.slice x12 x13 x14,.bool x15,.bool x16] ++junk) (List.replicate 2 ()):=(g5.mono fun cs s (k:Cv h2 _ _)=>(k.to:Cv h3 _ _)).app (cs:=[.bool x1,.slice x2 x3 x4,.slice x5 x6 x7,.bool x8,.slice x9 x10 x11,.slice x12 x13 x14,.bool x15,.bool x16]) (s:=()) rfl c3 junk
   dsimp only[lpS]
   refine⟨some (2,cap',row.take 8 ++[.bool x1,.slice x2 x3 x4,.slice x5 x6 x7,.bool x8,.slice x9 x10 x11,.slice x12 x13 x14,.bool x15,.bool x16] ++junk),[0,1,6],?_,⟨inferInstance,Nat.le_succ 1,η 2,hc,by simp;omega,hR⟩,η 1⟩
   try simp(maxSteps:=999999) (disch:=omega) only[go_sem,ξ,ζ]
   all_goals rfl
  ·obtain rfl:i=2:=by omega
   try simp(maxSteps:=999999) (disch:=omega) only[go_sem,ξ,ζ,hl,decide_false]
   have c1:Cv h2 (.agg (List.take 8 (List.drop (0*8) row)).toArray) (.i (some 0) (some 1)):=g5.2 0 () rfl
   have c2:Cv h2 (.agg (List.take 8 (List.drop (Int.toNat 1*8) row)).toArray) (.i (some 0) (some 1)):=g5.2 1 () rfl
   have kA:=fun {h} [Le h2 h]=>jf (h:=h) (p:=2) (c1.iv (by decide)) (c2.iv (by decide))
   rw[out02] at kA
   refine caN (by exact kA) ?_;rintro r h3 s3 r3;obtain⟨u,rfl,c3⟩:=r3;obtain⟨_,_,_,_,_,_,_,_,_,_,_,_,_,_,_,_,rfl,c3⟩:=c3.sa
   try simp(maxSteps:=999999) (disch:=omega) only[go_sem,ξ,ζ]
   exact⟨_,rfl,c3⟩
theorem Eval_a {h0 h:PH} [Le h0 h] {v:Value} {b:Nat} (hb:kC b h0) (hv:Boxv h0 v l01):Spec mach 69 #[exAv b,v,.int .i64 2] h (fun r h'=>Ir h' r (.ok (.i (some 0) (some 2)))) NP:=by
 have hv0:=hv
 obtain⟨_,_,_,rfl⟩:=hv.sa
 have hb0:=hb
 unfold exAv
 refine Spec.go [(3,.t (.s [0,1] (.p 1 (.p 2 (.s [2,3,4,5,6,7] .d)))))] Tryz.func69 rfl rfl (by kernel_rfl) fun C _=>?_
 try simp(maxSteps:=999999) (disch:=omega) only[go_sem,ξ,ζ]
 intro b1 h1 st1 hb1
 try simp(maxSteps:=999999) (disch:=omega) only[go_sem,ξ,ζ]
 intro b2 h2 st2 hb2
 try simp(maxSteps:=999999) (disch:=omega) only[go_sem,ξ,ζ]
 have hb1:=st2.sub _ _ (hb1 (by simp))
 have hb2:=hb2 (by simp)
 have kC2:=fun {h} [Le h2 h]=>Comb_a (h:=h) ((inferInstance:Le h0 h2).sub _ _ hb0) (hv0.to (h':=h2)) hb1 hb2
 unfold exAv at kC2
 refine caN (by exact kC2) ?_;rintro r h3 s3 r3;obtain⟨u,rfl,c3⟩:=r3;obtain⟨_,_,_,_,_,_,_,_,_,_,_,_,_,_,_,_,rfl,c3⟩:=c3.sa
 try simp(maxSteps:=999999) (disch:=omega) only[go_sem,ξ,ζ]
 exact⟨_,rfl,c3⟩
theorem Range_a {h0 h:PH} [Le h0 h] {v:Value} {b:Nat} (hb:kC b h0) (hv:Boxv h0 v l01):Spec mach 25 #[exAv b,v,.int .i64 2] h (fun r h'=>Ir h' r (.ok (.i (some 0) (some 2)))) NP:=by
 have kR:=fun {h} [Le h0 h]=>Ready_spec (h:=h) hb hv
 have kE:=fun {h} [Le h0 h]=>Eval_a (h:=h) hb hv
 obtain⟨_,_,_,rfl⟩:=hv.sa
 unfold exAv at*
 refine Spec.go [] Tryz.func25 rfl rfl (by kernel_rfl) fun C _=>?_
 try simp(maxSteps:=999999) (disch:=omega) only[go_sem,ξ,ζ]
 refine caN (by exact kR) ?_;rintro v1 h1 s1 rfl
 try simp(maxSteps:=999999) (disch:=omega) only[go_sem,ξ,ζ]
 refine caN (by exact kE) ?_;rintro r h3 s3 r3;obtain⟨u,rfl,c3⟩:=r3;obtain⟨_,_,_,_,_,_,_,_,_,_,_,_,_,_,_,_,rfl,c3⟩:=c3.sa
 try simp(maxSteps:=999999) (disch:=omega) only[go_sem,ξ,ζ]
 exact⟨_,rfl,c3⟩
theorem awake05_spec {h:PH}:Spec mach 10 #[] h (fun r _=>r=.bool true) NP:=by
 refine Spec.go [(3,.t (.p 1 (.s [0,1,2] (.p 2 (.s [3,4,5,6,7,8,9,10,11] .d)))))] Tryz.func10 rfl rfl (by kernel_rfl) fun C _=>?_
 try simp(maxSteps:=999999) (disch:=omega) only[go_sem,ξ,ζ]
 refine caN (by exact aF (n:=1) (by decide) (by decide)) ?_;rintro _ h1 _ f1;obtain⟨_,_,_,_,_,_,_,rfl,f1⟩:=f1.sa
 try simp(maxSteps:=999999) (disch:=omega) only[go_sem,ξ,ζ]
 refine caN (by exact cA f1 (by decide)) ?_;rintro _ h2 _ f2;obtain⟨v2_0,v2_1,v2_2,v2_3,v2_4,v2_5,v2_6,rfl,f2⟩:=f2.sa
 try simp(maxSteps:=999999) (disch:=omega) only[go_sem,ξ,ζ,Nat.reduceMul]
 intro bs h3 st3 hbs
 try simp(maxSteps:=999999) (disch:=omega) only[go_sem,ξ,ζ]
 have hbs:=hbs (by simp)
 intro bk h4 st4 hbk
 try simp(maxSteps:=999999) (disch:=omega) only[go_sem,ξ,ζ]
 have hbk:kC bk h4:=hbk (by simp)
 have hat:∀j v,([.string ⟨#[120]⟩,.bool false,.slice none 0 0,.slice none 0 0,.bool v2_0,.slice v2_1 v2_2 v2_3,.slice v2_4 v2_5 v2_6,.bool false,.bool false]:List Value)[j]?=some v→h4.at (((⟨bs,0,none⟩:Addr).add 0).add j)=some v:=fun j v hj=>by
  refine st4.sub.at ?_
  rw[at_off hbs,Nat.zero_add]
  simpa using hj
 have hv:Boxv h4 (.slice (some ⟨bs,0,none⟩) 1 1) l01:=⟨_,_,rfl,by decide,fun i s hi=>by
  have hi1:i < 1:=(List.getElem?_eq_some_iff.1 hi).1
  obtain rfl:i=0:=by omega
  cases hi
  refine⟨_,_,_,_,_,_,_,_,_,_,_,_,_,_,_,_,_,rfl,hat,?_⟩
  have c1:Cv h4 (.agg #[.bool false,.slice none 0 0,.slice none 0 0,.bool v2_0,.slice v2_1 v2_2 v2_3,.slice v2_4 v2_5 v2_6,.bool false,.bool false]) (.i (some 0) (some 1)):=⟨_,_,_,_,_,_,rfl,Cn.zero h4,by simpa using f2.to (h':=h4)⟩
  exact c1.iv (by decide)⟩
 have kR:=fun {h} [Le h4 h]=>Range_a (h:=h) hbk hv
 have kV:=fun {h} [Le h4 h]=>BValid_spec (h:=h) hv
 rw[l01_ok] at kV
 unfold exAv at kR
 refine caN (by exact kR) ?_;rintro r h5 s5 r5;obtain⟨u,rfl,c5⟩:=r5;obtain⟨d1,w1,w2,w3,w4,w5,w6,d2,w7,w8,w9,w10,w11,w12,rfl,p1,p2⟩:=c5.fl
 try simp(maxSteps:=999999) (disch:=omega) only[go_sem,ξ,ζ]
 have p1:Cn h5 _ 0:=p1
 have p2:Cn h5 _ 2:=p2
 obtain⟨sn,sd,e1,n1,n2⟩:=p1
 obtain⟨sn',sd',e2,n3,n4⟩:=p2
 simp only[Value.agg.injEq,Array.mk.injEq,List.cons.injEq,and_true] at e1 e2
 obtain⟨_,rfl,rfl⟩:=e1
 obtain⟨_,rfl,rfl⟩:=e2
 have:=E4 (by simpa using n1)
 subst this
 obtain⟨rfl,ad',rfl,t2⟩:=zC (n:=2) n3 (by decide) (by decide)
 have:=E4 (by simpa using n4)
 subst this
 try simp(maxSteps:=999999) (disch:=omega) only[go_sem,ξ,ζ]
 refine aE t2 ?_
 try simp(maxSteps:=999999) (disch:=omega) only[go_sem,ξ,ζ]
 refine caN (by exact kV) ?_;rintro v6 h6 s6 rfl
 try simp(maxSteps:=999999) (disch:=omega) only[go_sem,ξ,ζ]
 all_goals rfl
end Go.Q
namespace Go.Q
set_option maxHeartbeats 4000000
def smSum (f:Nat→Rat):Nat→Nat→Rat
 |_,0=>0
 |k,m+1=>f k+smSum f (k+1) m
theorem sm_add (f g:Nat→Rat):∀(m k:Nat),smSum (fun i=>f i+g i) k m=smSum f k m+smSum g k m
 |0,_=>by unfold smSum;grind
 |m+1,k=>by unfold smSum;rw[sm_add f g m (k+1)];grind
theorem sm_mul (c:Rat) (f:Nat→Rat):∀(m k:Nat),smSum (fun i=>c*f i) k m=c*smSum f k m
 |0,_=>by unfold smSum;grind
 |m+1,k=>by unfold smSum;rw[sm_mul c f m (k+1)];grind
theorem sm_congr {f g:Nat→Rat}:∀(m k:Nat),(∀i,k≤i→i < k+m→f i=g i)→smSum f k m=smSum g k m
 |0,_,_=>rfl
 | m+1,k,h=>by
  unfold smSum
  rw[h k (η _) (by omega),sm_congr m (k+1) (fun i h1 h2=>h i (by omega) (by omega))]
theorem sm_zero {f:Nat→Rat}:∀(m k:Nat),(∀i,k≤i→i < k+m→f i=0)→smSum f k m=0
 |0,_,_=>rfl
 | m+1,k,h=>by
  unfold smSum
  rw[h k (η _) (by omega),sm_zero m (k+1) (fun i h1 h2=>h i (by omega) (by omega))]
  grind
def qf (A:Nat→Nat→Rat) (v:Nat→Rat) (k m:Nat):Rat:=smSum (fun i=>smSum (fun j=>A i j*(v i*v j)) k m) k m
theorem qf_succ (A:Nat→Nat→Rat) (v:Nat→Rat) (k m:Nat) (hs:∀i j,A i j=A j i):
  qf A v k (m+1)=A k k*(v k*v k)+2*(v k*smSum (fun j=>A k j*v j) (k+1) m)+qf A v (k+1) m:=by
 unfold qf
 have e1:smSum (fun j=>A k j*(v k*v j)) (k+1) m=v k*smSum (fun j=>A k j*v j) (k+1) m:=by
  rw[←sm_mul];exact sm_congr _ _ fun i _ _=>by grind
 have e2:smSum (fun i=>smSum (fun j=>A i j*(v i*v j)) k (m+1)) (k+1) m=smSum (fun i=>v k*(A k i*v i)+smSum (fun j=>A i j*(v i*v j)) (k+1) m) (k+1) m:=sm_congr _ _ fun i _ _=>by
  show A i k*(v i*v k)+_=_
  rw[hs i k];grind
 show(A k k*(v k*v k)+smSum (fun j=>A k j*(v k*v j)) (k+1) m)+smSum (fun i=>smSum (fun j=>A i j*(v i*v j)) k (m+1)) (k+1) m=_
 rw[e1,e2,sm_add,sm_mul]
 grind
def scA (A:Nat→Nat→Rat) (k i j:Nat):Rat:=A i j - A k i*A k j / A k k
theorem qf_sc (A:Nat→Nat→Rat) (v:Nat→Rat) (k m:Nat):
  qf A v (k+1) m=qf (scA A k) v (k+1) m+smSum (fun j=>A k j*v j) (k+1) m*smSum (fun j=>A k j*v j) (k+1) m / A k k:=by
 generalize hL:smSum (fun j=>A k j*v j) (k+1) m=L
 have e:∀i,smSum (fun j=>A i j*(v i*v j)) (k+1) m=smSum (fun j=>scA A k i j*(v i*v j)) (k+1) m+(L / A k k)*(A k i*v i):=fun i=>by
  have:(L / A k k)*(A k i*v i)=smSum (fun j=>(A k i*v i / A k k)*(A k j*v j)) (k+1) m:=by
   rw[sm_mul,hL];grind
  rw[this,←sm_add]
  exact sm_congr _ _ fun j _ _=>by unfold scA;grind
 unfold qf
 rw[sm_congr (g:=fun i=>smSum (fun j=>scA A k i j*(v i*v j)) (k+1) m+(L / A k k)*(A k i*v i)) _ _ (fun i _ _=>e i),sm_add,sm_mul,hL]
 grind
def elA (A:Nat→Nat→Rat):Nat→Nat→Nat→Rat
 |0=>A
 |k+1=>scA (elA A k) k
theorem elA_sym {A:Nat→Nat→Rat} (hs:∀i j,A i j=A j i):∀k i j,elA A k i j=elA A k j i
 |0,i,j=>hs i j
 |k+1,i,j=>by unfold elA scA;rw[elA_sym hs k i j];grind
theorem qf_pos {A:Nat→Nat→Rat} {v:Nat→Rat} (hs:∀i j,A i j=A j i) (n:Nat) (hp:∀k,k < n→0 < elA A k k k):∀(m k:Nat),k+m=n→
  0≤qf (elA A k) v k m∧((∃i,k≤i∧i < n∧v i≠0)→0 < qf (elA A k) v k m)
 |0,k,h=>⟨by unfold qf smSum;grind,fun⟨i,h1,h2,_⟩=>by omega⟩
 | m + 1,k,h=>by
  obtain⟨ih1,ih2⟩:=qf_pos hs n hp m (k+1) (by omega)
  have hk:=hp k (by omega)
  have hL0:(∀j,k+1≤j→j < n→v j=0)→smSum (fun j=>elA A k k j*v j) (k+1) m=0:=fun hv=>sm_zero _ _ fun i h1 h2=>by rw[hv i h1 (by omega)];grind
  rw[qf_succ _ _ _ _ (elA_sym hs k),qf_sc]
  change 0≤qf (scA (elA A k) k) v (k+1) m at ih1
  change _→0 < qf (scA (elA A k) k) v (k+1) m at ih2
  generalize qf (scA (elA A k) k) v (k+1) m=q at*
  generalize smSum (fun j=>elA A k k j*v j) (k+1) m=L at*
  generalize elA A k k k=a at*
  generalize hx:v k=x at*
  have ha:a*a⁻¹=1:=qBf _ (by grind)
  have e:a*(x*x)+2*(x*L)+(q+L*L / a)=a*((x+L*a⁻¹)*(x+L*a⁻¹))+q:=by
   rw[qAx];grind
  rw[e]
  have sq:0≤(x+L*a⁻¹)*(x+L*a⁻¹):=by
   rcases Rat.le_total (a:=0) (b:=x+L*a⁻¹) with g |g
   ·exact mnn g g
   ·have:=mnn (show 0≤ -(x+L*a⁻¹) by grind) (show 0≤ -(x+L*a⁻¹) by grind)
    grind
  have p1:=mnn (llt hk) sq
  refine⟨by grind,fun⟨i,h1,h2,h3⟩=>?_⟩
  by_cases g:∃i,k+1≤i∧i < n∧v i≠0
  ·have:=ih2 g
   grind
  ·have hv:∀j,k+1≤j→j < n→v j=0:=fun j j1 j2=>by
    by_cases e:v j=0
    ·exact e
    ·exact absurd ⟨j,j1,j2,e⟩ g
   have l0:=hL0 hv
   have hx0:x≠0:=by
    rcases qBj i (k+1) with g2 |g2
    ·obtain rfl:i=k:=by omega
     rw[←hx];exact h3
    ·exact absurd (hv i g2 h2) h3
   subst l0
   have:0 < x*x:=by
    rcases Rat.le_total (a:=0) (b:=x) with g2 |g2
    ·exact Rat.mul_pos (by grind) (by grind)
    ·have:=Rat.mul_pos (show 0 < -x by grind) (show 0 < -x by grind)
     grind
   have:=Rat.mul_pos hk this
   grind
def NS.hasP:NS→Pt→Bool
 |x,.fin q=>x.has q
 |.i _ b,.inf true=>b.isNone
 |.i a _,.inf false=>a.isNone
 |.e,.inf _=>false
def cov (o:NS×Bool×Bool):Pt→Bool
 |.fin q=>o.1.has q
 |.inf true=>o.2.2
 |.inf false=>o.2.1
theorem te {x y:NS} {q:Rat} (h:x.has q=true):(x.joined y).has q=true:=by
 cases x with
 |e=>cases h
 | i a b =>
  cases y with
  |e=>exact h
  | i c d=>
   show(NS.i (jmin a c) (jmax b d)).has q=true
   rw[NS.has_i] at h ⊢
   refine⟨fun z e=>?_,fun z e=>?_⟩
   ·cases a with
    |none=>cases e
    | some a=>cases c with
     |none=>cases e
     |some c=>cases e;have:=h.1 _ rfl;grind
   ·cases b with
    |none=>cases e
    | some b=>cases d with
     |none=>cases e
     |some d=>cases e;have:=h.2 _ rfl;grind
theorem has_pt {q:Rat}:(NS.i (some q) (some q)).has q=true:=by
 rw[NS.has_i];exact⟨fun _ e=>by cases e;grind,fun _ e=>by cases e;grind⟩
theorem qG {o:NS×Bool×Bool} {z w:Pt} (h:cov o z=true):cov (stp o w) z=true:=by
 obtain⟨s,l,u⟩:=o
 cases w with
 | fin p=>cases z with
  |fin q=>exact te h
  |inf v=>cases v<;>exact h
 | inf p=>cases z with
  |fin q=>cases p<;>exact h
  |inf v=>cases v<;>cases p<;>first |exact h |rfl
theorem vU {o:NS×Bool×Bool} {z:Pt}:cov (stp o z) z=true:=by
 obtain⟨s,l,u⟩:=o
 cases z with
 |fin q=>show(s.joined _).has q=true;rw[NS.joined_comm];exact te has_pt
 |inf v=>cases v<;>rfl
theorem cov_fin3 {o:NS×Bool×Bool} {z:Pt} (h:cov o z=true):(fin3 o).hasP z=true:=by
 obtain⟨s,l,u⟩:=o
 cases z with
 |inf v=>cases v<;>(have h:_=true:=h;simp only[cov] at h;subst h;cases s<;>rfl)
 | fin q=>
  cases s with
  |e=>cases h
  | i a b=>
   have k:(NS.i a b).has q=true:=h
   show(NS.i _ _).has q=true
   rw[NS.has_i] at k ⊢
   refine⟨fun z e=>?_,fun z e=>?_⟩
   ·cases l with
    |true=>cases e
    |false=>exact k.1 _ e
   ·cases u with
    |true=>cases e
    |false=>exact k.2 _ e
theorem om {a b c d:Option Rat} {x y:Pt} (hx:x=lowP a∨x=highP b) (hy:y=lowP c∨y=highP d):((NS.i a b).prod (.i c d)).hasP (x.mul y)=true:=by
 show(fin3 (stp (stp (stp (stp (.e,false,false) ((lowP a).mul (lowP c))) ((lowP a).mul (highP d))) ((highP b).mul (lowP c))) ((highP b).mul (highP d)))).hasP _=true
 refine cov_fin3 ?_
 rcases hx with rfl |rfl<;>rcases hy with rfl |rfl
 ·exact qG (qG (qG vU))
 ·exact qG (qG vU)
 ·exact qG vU
 ·exact vU
theorem Jo {p:NS} {q r s:Rat} (h1:p.has q=true) (h2:p.has r=true) (h3:(q≤s∧s≤r)∨(r≤s∧s≤q)):p.has s=true:=by
 cases p with
 |e=>cases h1
 | i a b=>
  rw[NS.has_i] at*
  refine⟨fun z e=>?_,fun z e=>?_⟩
  ·have:=h1.1 z e;have:=h2.1 z e;grind
  ·have:=h1.2 z e;have:=h2.2 z e;grind
theorem Dt {p l u q:Rat} (h1:l≤q) (h2:q≤u):(p*l≤p*q∧p*q≤p*u)∨(p*u≤p*q∧p*q≤p*l):=by
 by_cases hp:0≤p
 ·exact .inl ⟨mll h1 hp,mll h2 hp⟩
 ·have hn:0≤ -p:=by grind
  have k1:=mll h1 hn
  have k2:=mll h2 hn
  right
  grind
theorem mul_in {p:NS} {e:Pt} {l u q:Rat} (h1:l≤q) (h2:q≤u) (k1:p.hasP (e.mul (.fin l))=true) (k2:p.hasP (e.mul (.fin u))=true):p.hasP (e.mul (.fin q))=true:=by
  cases e with
  | fin r=>
    have k1:p.has (r*l)=true:=by cases p<;>exact k1
    have k2:p.has (r*u)=true:=by cases p<;>exact k2
    have:=Jo k1 k2 (Dt (p:=r) h1 h2)
    cases p<;>exact this
  | inf up=>
    simp only[Pt.mul] at k1 k2 ⊢
    by_cases hq:q=0
    · rw[if_pos hq]
      by_cases hl:l=0
      · rwa[if_pos hl] at k1
      · by_cases hu:u=0
        · rwa[if_pos hu] at k2
        · rw[if_neg hl,decide_eq_false (by grind)] at k1
          rw[if_neg hu,decide_eq_true (by grind)] at k2
          cases p with
          |e=>cases up<;>cases k1
          | i a b=>
            cases up with
            | true=>
              have j1:a.isNone=true:=k1
              have j2:b.isNone=true:=k2
              cases a<;>cases b<;>first |rfl |(cases j1;done) |(cases j2;done)
            | false=>
              have j1:b.isNone=true:=k1
              have j2:a.isNone=true:=k2
              cases a<;>cases b<;>first |rfl |(cases j1;done) |(cases j2;done)
    · rw[if_neg hq]
      by_cases hp:0 < q
      · have hu:0 < u:=by grind
        rw[if_neg (by grind),decide_eq_true hu] at k2
        rw[decide_eq_true hp];exact k2
      · have hl:¬0 < l:=by grind
        rw[if_neg (by grind),decide_eq_false hl] at k1
        rw[decide_eq_false hp];exact k1
def NS.powr (n:Nat):NS→NS
 |.e=>.e
 |.i a b=>.i (a.map (· ^n)) (b.map (· ^n))
def NS.pow (n:Nat):NS→NS
 |.e=>.e
 |.i a b=>if n=0 then .i (some ((1:Int):Rat)) (some ((1:Int):Rat)) else if n % 2=0 then (NS.i a b).size.powr n else (NS.i a b).powr n
theorem NS.size_low {x:NS} {a b:Option Rat} (hx:x.ok) (h:x.size=.i a b):∃p,a=some p∧0≤p:=by
 have sg:∀{q:Rat},0≤sgn3 q→0≤q:=fun {q} k=>by unfold sgn3 at k;grind
 have sg':∀{q:Rat},sgn3 q≤0→q≤0:=fun {q} k=>by unfold sgn3 at k;grind
 cases x with
 |e=>cases h
 | i c d =>
  rw[NS.size_i] at h
  split at h
  ·rename_i h1
   cases h
   cases a with
   |none=>exact absurd h1 (by show ¬(0:Int)≤ -1;decide)
   |some a=>exact⟨a,rfl,sg h1⟩
  ·split at h
   ·rename_i h1
    cases d with
    |none=>exact absurd h1 (by show ¬(1:Int)≤0;decide)
    | some d=>
     have h2:=sg' (show sgn3 d≤0 from h1)
     cases h
     exact⟨-d,rfl,by grind⟩
   ·cases h
    exact⟨_,rfl,by decide⟩
theorem NS.ok_powr {x:NS} {n:Nat} (hx:x.ok) (hn:n % 2=1∨∀a b,x=.i a b→∃p,a=some p∧0≤p):(x.powr n).ok:=by
 cases x with
 |e=>trivial
 | i a b =>
  show ordO _ _=true
  cases a with
  |none=>rfl
  | some a=>cases b with
   |none=>rfl
   | some b=>
    have h0:¬b < a:=by simpa[NS.ok,ordO] using hx
    have h1:a^n≤b^n:=by
     rcases hn with k |k
     ·exact tM k (by grind)
     ·obtain⟨p,e,hp⟩:=k _ _ rfl
      cases e
      exact gO n hp (by grind)
    have h2:¬b^n < a^n:=by grind
    simp[ordO,h2]
theorem NS.ok_pow {x:NS} {n:Nat} (hx:x.ok):(x.pow n).ok:=by
 cases x with
 |e=>trivial
 | i a b=>
  show NS.ok (if n=0 then _ else if n % 2=0 then _ else _)
  split
  ·show ordO _ _=true
   simp[ordO]
  ·split
   ·exact NS.ok_powr (NS.ok_size hx) (.inr fun c d e=>NS.size_low hx e)
   ·exact NS.ok_powr hx (.inl (by omega))
theorem fh {p:NS} {q:Rat}:p.hasP (.fin q)=p.has q:=by cases p<;>rfl
theorem Fo {z:Pt}:NS.e.hasP z=false:=by
 cases z with
 |fin q=>rfl
 |inf v=>cases v<;>rfl
theorem wj {p q u:Rat} (hp:0≤p) (h:q≤u):p*q≤p*u:=mll h hp
theorem HA {p q u:Rat} (hp:p≤0) (h:q≤u):p*u≤p*q:=by
 have:=mll h (show 0≤ -p by grind)
 grind
theorem G1 {p:NS} {q r:Rat} (h:p.hasP (.inf false)=true) (h1:p.has q=true) (hr:r≤q):p.has r=true:=by
 cases p with
 |e=>cases h1
 | i a b=>
  cases a with
  |some a=>cases h
  | none=>
   rw[NS.has_i] at*
   exact⟨fun z e=>(by cases e),fun z e=>qAq hr (h1.2 z e)⟩
theorem G0 {p:NS} {q r:Rat} (h:p.hasP (.inf true)=true) (h1:p.has q=true) (hr:q≤r):p.has r=true:=by
 cases p with
 |e=>cases h1
 | i a b=>
  cases b with
  |some b=>cases h
  | none=>
   rw[NS.has_i] at*
   exact⟨fun z e=>qAq (h1.1 z e) hr,fun z e=>(by cases e)⟩
theorem lE {p:NS} (h:p.hasP (.inf false)=true) (h1:p.hasP (.inf true)=true) (q:Rat):p.has q=true:=by
 cases p with
 |e=>cases h
 | i a b=>
  cases a with
  |some a=>cases h
  | none=>cases b with
   |some b=>cases h1
   |none=>rfl
theorem mul_inP {p:NS} {e:Pt} {c d:Option Rat} {q:Rat} (hq:(NS.i c d).has q=true) (k1:p.hasP (e.mul (lowP c))=true) (k2:p.hasP (e.mul (highP d))=true):p.hasP (e.mul (.fin q))=true:=by
 rw[NS.has_i] at hq
 cases c with
 | some c=>
  cases d with
  |some d=>exact mul_in (hq.1 _ rfl) (hq.2 _ rfl) k1 k2
  | none=>
   have hc:c≤q:=hq.1 _ rfl
   cases e with
   | fin r=>
    have k1:p.has (r*c)=true:=by rw[←fh];exact k1
    have k2:p.hasP (if r=0 then .fin 0 else .inf (true == decide (0 < r)))=true:=k2
    show p.hasP (.fin (r*q))=true
    rw[fh]
    by_cases hr:r=0
    ·subst hr;rw[Rat.zero_mul] at k1 ⊢;exact k1
    ·rw[if_neg hr] at k2
     by_cases hp:0 < r
     ·rw[decide_eq_true hp] at k2
      exact G0 k2 k1 (wj (by grind) hc)
     ·rw[decide_eq_false hp] at k2
      exact G1 k2 k1 (HA (by grind) hc)
   | inf v=>
    have k2:p.hasP (.inf (v == true))=true:=k2
    have k1:p.hasP (if c=0 then .fin 0 else .inf (v == decide (0 < c)))=true:=k1
    show p.hasP (if q=0 then .fin 0 else .inf (v == decide (0 < q)))=true
    by_cases h0:q=0
    ·rw[if_pos h0]
     by_cases c0:c=0
     ·rwa[if_pos c0] at k1
     ·rw[if_neg c0,decide_eq_false (by grind)] at k1
      rw[fh]
      cases v
      ·exact lE k2 k1 0
      ·exact lE k1 k2 0
    ·rw[if_neg h0]
     by_cases hp:0 < q
     ·rw[decide_eq_true hp];exact k2
     ·rw[decide_eq_false hp]
      rw[if_neg (by grind),decide_eq_false (by grind)] at k1
      exact k1
 | none=>
  cases d with
  | some d=>
   have hd:q≤d:=hq.2 _ rfl
   cases e with
   | fin r=>
    have k2:p.has (r*d)=true:=by rw[←fh];exact k2
    have k1:p.hasP (if r=0 then .fin 0 else .inf (false == decide (0 < r)))=true:=k1
    show p.hasP (.fin (r*q))=true
    rw[fh]
    by_cases hr:r=0
    ·subst hr;rw[Rat.zero_mul] at k2 ⊢;exact k2
    ·rw[if_neg hr] at k1
     by_cases hp:0 < r
     ·rw[decide_eq_true hp] at k1
      exact G1 k1 k2 (wj (by grind) hd)
     ·rw[decide_eq_false hp] at k1
      exact G0 k1 k2 (HA (by grind) hd)
   | inf v=>
    have k1:p.hasP (.inf (v == false))=true:=k1
    have k2:p.hasP (if d=0 then .fin 0 else .inf (v == decide (0 < d)))=true:=k2
    show p.hasP (if q=0 then .fin 0 else .inf (v == decide (0 < q)))=true
    by_cases h0:q=0
    ·rw[if_pos h0]
     by_cases d0:d=0
     ·rwa[if_pos d0] at k2
     ·rw[if_neg d0,decide_eq_true (by grind)] at k2
      rw[fh]
      cases v
      ·exact lE k2 k1 0
      ·exact lE k1 k2 0
    ·rw[if_neg h0]
     by_cases hp:0 < q
     ·rw[decide_eq_true hp]
      rw[if_neg (by grind),decide_eq_true (by grind)] at k2
      exact k2
     ·rw[decide_eq_false hp];exact k1
  | none=>
   cases e with
   | fin r=>
    have k1:p.hasP (if r=0 then .fin 0 else .inf (false == decide (0 < r)))=true:=k1
    have k2:p.hasP (if r=0 then .fin 0 else .inf (true == decide (0 < r)))=true:=k2
    show p.hasP (.fin (r*q))=true
    by_cases hr:r=0
    ·rw[if_pos hr] at k1;subst hr;rw[Rat.zero_mul];exact k1
    ·rw[if_neg hr] at k1 k2
     rw[fh]
     cases hp:decide (0 < r)<;>rw[hp] at k1 k2
     ·exact lE k2 k1 _
     ·exact lE k1 k2 _
   | inf v=>
    have k1:p.hasP (.inf (v == false))=true:=k1
    have k2:p.hasP (.inf (v == true))=true:=k2
    show p.hasP (if q=0 then .fin 0 else .inf (v == decide (0 < q)))=true
    split
    ·rw[fh]
     cases v
     ·exact lE k2 k1 0
     ·exact lE k1 k2 0
    ·cases decide (0 < q)
     ·exact k1
     ·exact k2
theorem hasP_end {c d:Option Rat} {z:Pt} (h:(NS.i c d).hasP z=true):z=lowP c∨z=highP d∨∃q,z=.fin q∧(NS.i c d).has q=true:=by
 cases z with
 |fin q=>exact .inr (.inr ⟨q,rfl,h⟩)
 | inf v=>cases v with
  | false=>cases c with
   |none=>exact .inl rfl
   |some c=>cases h
  | true=>cases d with
   |none=>exact .inr (.inl rfl)
   |some d=>cases h
theorem yi {p:NS} {e z:Pt} {c d:Option Rat} (hz:(NS.i c d).hasP z=true) (k1:p.hasP (e.mul (lowP c))=true) (k2:p.hasP (e.mul (highP d))=true):p.hasP (e.mul z)=true:=by
 rcases hasP_end hz with rfl |rfl |⟨q,rfl,hq⟩
 ·exact k1
 ·exact k2
 ·exact mul_inP hq k1 k2
theorem mN {x y:NS} {z w:Pt} (hz:x.hasP z=true) (hw:y.hasP w=true):(x.prod y).hasP (z.mul w)=true:=by
 cases x with
 |e=>rw[Fo] at hz;cases hz
 | i a b=>
  cases y with
  |e=>rw[Fo] at hw;cases hw
  | i c d=>
   have k1:=yi hw (om (a:=a) (b:=b) (x:=lowP a) (.inl rfl) (.inl rfl)) (om (a:=a) (b:=b) (x:=lowP a) (.inl rfl) (.inr rfl))
   have k2:=yi hw (om (a:=a) (b:=b) (x:=highP b) (.inr rfl) (.inl rfl)) (om (a:=a) (b:=b) (x:=highP b) (.inr rfl) (.inr rfl))
   rw[Pt.mul_comm] at k1 k2 ⊢
   exact yi hz k1 k2
theorem yo {x y:NS} {p q:Rat} (hp:x.has p=true) (hq:y.has q=true):(x.prod y).has (p*q)=true:=by
 have:=mN (z:=.fin p) (w:=.fin q) (by rw[fh];exact hp) (by rw[fh];exact hq)
 rwa[←fh]
theorem iX {a b:Option Rat} (h:(NS.i a b).ok):(NS.i a b).hasP (lowP a)=true:=by
 cases a with
 |none=>rfl
 |some a=>exact NS.lo_has h
theorem eJ {x y:NS} {z:Pt} (hx:x.ok) (h:x.within y=true) (hz:x.hasP z=true):y.hasP z=true:=by
 cases z with
 |fin q=>rw[fh] at hz ⊢;exact(NS.within_iff hx).1 h q hz
 | inf v =>
  cases x with
  |e=>rw[Fo] at hz;cases hz
  | i a b =>
   cases y with
   |e=>cases h
   | i c d=>
    have h:(NS.lowIn c a && NS.highIn d b)=true:=h
    simp only[φ] at h
    cases v with
    | false=>cases a with
     |some a=>cases hz
     | none=>cases c with
      |none=>rfl
      |some c=>cases h.1
    | true=>cases b with
     |some b=>cases hz
     | none=>cases d with
      |none=>rfl
      |some d=>cases h.2
theorem tv {q:Rat} (h:0 < q):0 < q⁻¹:=by
 have h1:q*q⁻¹=1:=qBf q (by grind)
 rcases(Rat.le_total:q⁻¹≤0∨0≤q⁻¹) with k |k
 ·have:=mll k (show 0≤q by grind)
  grind
 ·by_cases h0:q⁻¹=0
  ·rw[h0] at h1;grind
  ·grind
theorem tm {q:Rat} (h:q < 0):q⁻¹ < 0:=by
 have h1:q*q⁻¹=1:=qBf q (by grind)
 rcases(Rat.le_total:0≤q⁻¹∨q⁻¹≤0) with k |k
 ·have:=mll k (show 0≤ -q by grind)
  grind
 ·by_cases h0:q⁻¹=0
  ·rw[h0] at h1;grind
  ·grind
theorem xY {c d:Rat} (h:c≤d) (hs:0 < c∨d < 0):d⁻¹≤c⁻¹:=by
 have hc:c*c⁻¹=1:=qBf c (by grind)
 have hd:d*d⁻¹=1:=qBf d (by grind)
 have hn:0≤c⁻¹*d⁻¹:=by
  rcases hs with k |k
  ·have h1:=tv k
   have h2:=tv (show 0 < d by grind)
   have:=mll (show 0≤d⁻¹ by grind) (show 0≤c⁻¹ by grind)
   grind
  ·have h1:=tm k
   have h2:=tm (show c < 0 by grind)
   have:=mll (show 0≤ -d⁻¹ by grind) (show 0≤ -c⁻¹ by grind)
   grind
 have h3:=mll h hn
 have e1:c⁻¹*d⁻¹*c=d⁻¹:=by
  have:c⁻¹*d⁻¹*c=(c*c⁻¹)*d⁻¹:=by grind
  rw[this,hc,Rat.one_mul]
 have e2:c⁻¹*d⁻¹*d=c⁻¹:=by
  have:c⁻¹*d⁻¹*d=(d*d⁻¹)*c⁻¹:=by grind
  rw[this,hd,Rat.one_mul]
 rwa[e1,e2] at h3
theorem qN {c d:Option Rat} (hz:(NS.i c d).zero=false) (ho:(NS.i c d).ok):invO d≤invO c:=by
 have h1:¬((NS.i c d).slo≤0∧0≤(NS.i c d).shi):=by
  intro k
  simp[NS.zero,NS.void,k.1,k.2] at hz
 have z0:((0:Int):Rat)=0:=rfl
 cases c with
 | none=>
  cases d with
  |none=>exact(h1 ⟨by decide,by decide⟩).elim
  | some d=>
   have h2:¬0≤sgn3 d:=fun k=>h1 ⟨by show(-1:Int)≤0;decide,k⟩
   have h3:d < 0:=by unfold sgn3 at h2;grind
   have:=tm h3
   show d⁻¹≤((0:Int):Rat)
   grind
 | some c=>
  cases d with
  | none=>
   have h2:¬sgn3 c≤0:=fun k=>h1 ⟨k,by show(0:Int)≤1;decide⟩
   have h3:0 < c:=by unfold sgn3 at h2;grind
   have:=tv h3
   show((0:Int):Rat)≤c⁻¹
   grind
  | some d=>
   have h2:¬(sgn3 c≤0∧0≤sgn3 d):=h1
   have h3:¬d < c:=by simpa[NS.ok,ordO] using ho
   have h4:0 < c∨d < 0:=by unfold sgn3 at h2;grind
   exact xY (by grind) h4
theorem cK {a b c d:Option Rat}:(NS.i a b).within (.i c d)=true↔NS.lowIn c a=true∧NS.highIn d b=true:=by
 show(NS.lowIn c a && NS.highIn d b)=true↔_
 rw[φ]
theorem dp {c a:Option Rat}:NS.lowIn c a=true↔∀z,c=some z→∃w,a=some w∧z≤w:=by
  cases c with
  |none=>exact⟨fun _ z e=>(by cases e),fun _=>rfl⟩
  | some c=>
    cases a with
    |none=>exact⟨fun h=>(by cases h),fun h=>by obtain⟨w,e,_⟩:=h c rfl;cases e⟩
    | some a=>
      constructor
      · intro h z e
        cases e
        exact ⟨a, rfl, by have:¬a < c:=by simpa[NS.lowIn] using h
                          grind⟩
      · intro h
        obtain⟨w,e,k⟩:=h c rfl
        cases e
        have:¬a < c:=by grind
        simp[NS.lowIn,this]
theorem cJ {d b:Option Rat}:NS.highIn d b=true↔∀z,d=some z→∃w,b=some w∧w≤z:=by
  cases d with
  |none=>exact⟨fun _ z e=>(by cases e),fun _=>rfl⟩
  | some d=>
    cases b with
    |none=>exact⟨fun h=>(by cases h),fun h=>by obtain⟨w,e,_⟩:=h d rfl;cases e⟩
    | some b=>
      constructor
      · intro h z e
        cases e
        exact ⟨b, rfl, by have:¬d < b:=by simpa[NS.highIn] using h
                          grind⟩
      · intro h
        obtain⟨w,e,k⟩:=h d rfl
        cases e
        have:¬d < b:=by grind
        simp[NS.highIn,this]
theorem ud {x:NS}:x.has 0=x.zero:=by
 have k1:∀q:Rat,(!decide ((0:Rat) < q))=decide (sgn3 q≤0):=fun q=>by unfold sgn3;by_cases h:(0:Rat) < q<;>simp[h]<;>grind
 have k2:∀q:Rat,(!decide (q < (0:Rat)))=decide (0≤sgn3 q):=fun q=>by unfold sgn3;by_cases h:q < (0:Rat)<;>simp[h]<;>grind
 cases x with
 |e=>rfl
 | i a b=>
  cases a<;>cases b<;>simp[NS.has,NS.zero,NS.void,NS.slo,NS.shi,k1,k2]<;>rfl
theorem jE {x y:NS} (hx:x.ok) (h:x.within y=true) (hz:y.zero=false):x.zero=false:=by
 rw[←ud] at hz ⊢
 cases hx0:x.has 0 with
 |false=>rfl
 |true=>rw[(NS.within_iff hx).1 h 0 hx0] at hz;cases hz
open Go.Proofs
set_option maxRecDepth 100000
set_option maxHeartbeats 8000000
def rtw (q:Rat) (n p:Nat):Nat:=q.num.natAbs*2^(p*n) / q.den
def rtx (q:Rat) (n p:Nat):Bool:=decide (irt n (rtw q n p)^n=rtw q n p) && decide (q.num.natAbs*2^(p*n) % q.den=0)
def rtm (up:Bool) (q:Rat) (n p:Nat):Nat:=if (up != decide (q.num < 0))=true∧rtx q n p=false then irt n (rtw q n p)+1 else irt n (rtw q n p)
def rootg (up:Bool) (q:Rat) (n p:Nat):Rat:=sgn (decide (q.num < 0)) (rtm up q n p) (2^p)
theorem Bg {n a k:Nat} (hn:n≠0) (h:bl a≤n*k):bl (irt n a)≤k:=by
 have h1:a < 2^bl a:=bl_le.1 (η _)
 have h2:(2:Nat)^bl a≤2^(n*k):=qAv (by decide) h
 exact bl_le.2 (xZ hn (Nat.lt_of_lt_of_le h1 h2))
theorem BF {q:Rat} {n p:Nat} (hs:sz q≤2048) (hn:2≤n):bl (rtw q n p)≤n*(1024+p):=by
 have h1:=aZ (q.num.natAbs*2^(p*n)) q.den
 have h2:=cu q.num.natAbs (p*n)
 have h3:=bG q
 have h4:2*1024≤n*1024:=ψ _ hn
 have h5:n*(1024+p)=n*1024+p*n:=by rw[qAm,ρ n p]
 unfold rtw
 omega
theorem rtm_bl {up:Bool} {q:Rat} {n p:Nat} (hs:sz q≤2048) (hn:2≤n):bl (rtm up q n p)≤1025+p:=by
 have h1:=Bg (n:=n) (by omega) (BF (p:=p) hs hn)
 unfold rtm
 split
 ·have h2:=cY (irt n (rtw q n p)) 1
  rw[fI] at h2
  omega
 ·omega
theorem iY {up:Bool} {q:Rat} {n p:Nat} (hs:sz q≤2048) (hn:2≤n) (hp:p≤256):sz (rootg up q n p)≤2048:=by
 have h1:=dg (decide (q.num < 0)) (rtm up q n p) (d:=2^p) (Nat.ne_of_gt (qAo (by decide)))
 have h2:=rtm_bl (up:=up) (p:=p) hs hn
 have h3:=bC p
 unfold rootg
 omega
theorem pk {q:Rat} (h:0≤q):decide (q.num < 0)=false:=by
 rw[decide_eq_false_iff_not,num_neg]
 grind
theorem ou {q:Rat} (h:0≤q) (n p:Nat):rootg true q n p=sgn false (if rtx q n p=true then irt n (rtw q n p) else irt n (rtw q n p)+1) (2^p):=by
 unfold rootg rtm
 rw[pk h]
 cases rtx q n p<;>rfl
theorem sg_nn {q:Rat}:0≤sgn3 q↔0≤q:=by unfold sgn3;grind
theorem sg_np {q:Rat}:sgn3 q≤0↔q≤0:=by unfold sgn3;grind
theorem jU {a b:Option Rat} (hx:(NS.i a b).ok):
  (∃p,a=some p∧0≤p∧(NS.i a b).size=.i a b)∨(∃q,b=some q∧q≤0∧(NS.i a b).size=(NS.i a b).minus)∨
   ((∀p,a=some p→p < 0)∧(∀q,b=some q→0 < q)∧(NS.i a b).size=.i (some ((0:Int):Rat)) (jmax (a.map (-·)) b)):=by
 rw[NS.size_i]
 by_cases h1:0≤(NS.i a b).slo
 ·rw[if_pos h1]
  cases a with
  |none=>exact absurd h1 (by show ¬(0:Int)≤ -1;decide)
  |some a=>exact .inl ⟨a,rfl,sg_nn.1 h1,rfl⟩
 ·rw[if_neg h1]
  by_cases h2:(NS.i a b).shi≤0
  ·rw[if_pos h2]
   cases b with
   |none=>exact absurd h2 (by show ¬(1:Int)≤0;decide)
   |some b=>exact .inr (.inl ⟨b,rfl,sg_np.1 h2,rfl⟩)
  ·rw[if_neg h2]
   refine .inr (.inr ⟨fun p e=>?_,fun q e=>?_,rfl⟩)
   ·subst e
    have:¬0≤p:=fun k=>h1 (sg_nn.2 k)
    grind
   ·subst e
    have:¬q≤0:=fun k=>h2 (sg_np.2 k)
    grind
def badn (n:Int):Bool:=decide (n < -32) || decide (32 < n)
def hullO (p:Nat):Out→Out
 |.error e=>.error e
 |.ok z=>.ok (z.hull p)
def powO (n:Int) (x:NS):Out:=bif x.void then .ok .e else if n < 0 then (bif x.zero then .error 10 else .ok (x.inv.pow (-n).toNat)) else .ok (x.pow n.toNat)
def powR (n p:Int) (x:NS):Out:=bif badn n then .error 2 else Out.prec p (hullO p.toNat (powO n x))
theorem lG {n:Int} {x:NS} (hn:n < 0) (hz:x.zero=false):powO n x=.ok (x.inv.pow (-n).toNat):=by
 unfold powO
 rw[if_pos hn,hz]
 cases x<;>rfl
theorem mM {n:Int} {x:NS} (hn:n < 0) (hz:x.zero=true):powO n x=.error 10:=by
 unfold powO
 rw[if_pos hn,hz]
 cases x with
 |e=>cases hz
 |i a b=>rfl
theorem jz {n:Int} {x:NS} (hn:¬n < 0):powO n x=.ok (x.pow n.toNat):=by
 unfold powO
 rw[if_neg hn]
 cases x<;>rfl
theorem pY {x:NS} (hz:x.zero=false) (ho:x.ok):x.inv.ok:=by
 cases x with
 |e=>trivial
 | i a b=>
  show ordO _ _=true
  have:=qN hz ho
  simp[ordO];grind
@[go_sem] theorem void_at_e:NS.void .e=true:=rfl
@[go_sem] theorem void_at_i (a b:Option Rat):NS.void (.i a b)=false:=rfl

@[go_sem] theorem void_at_e':NS.void .e=true:=rfl
@[go_sem] theorem void_at_i' (a b:Option Rat):NS.void (.i a b)=false:=rfl
def NS.rootS (n p:Nat):NS→NS
 |.e=>.e
 |.i a b=>.i (a.map (rootg false · n p)) (b.map (rootg true · n p))
def badr (n:Int):Bool:=decide (n < 2) || decide (8 < n)
def rootO (n p:Int) (x:NS):Out:=bif x.void then .ok .e else if n % 2=0∧x.slo < 0 then .error 5 else .ok (x.rootS n.toNat p.toNat)
def rootR (n p:Int) (x:NS):Out:=bif badr n then .error 2 else Out.prec p (rootO n p x)
def opO (op:Nat) (x y:RI) (n p:Int):Out:=
 match op with
 |0=>x.fin2 y (rnd p x.set y.set (.ok (x.set.sum y.set)))
 |1=>x.fin2 y (rnd p x.set y.set (.ok (x.set.sum y.set.minus)))
 |2=>x.fin2 y (rnd p x.set y.set (.ok (x.set.prod y.set)))
 |3=>x.fin2 y (rnd p x.set y.set (divO x.set y.set))
 |4=>x.fin2 y (.ok (x.set.lesser y.set))
 |5=>x.fin2 y (.ok (x.set.minus.lesser y.set.minus).minus)
 |6=>x.fin (powR n p x.set)
 |_=>x.fin (rootR n p x.set)
def isoO (o o':Out):Prop:=∀L,o'=.ok L→∃S,o=.ok S∧S.within L=true
theorem AW (z:NS):Out.fin (.ok z)=.ok z∨Out.fin (.ok z)=.error 1:=by
 unfold Out.fin
 by_cases h:z.le 2048
 ·exact .inl (by simp only[h,decide_true,cond_true])
 ·exact .inr (by simp only[h,decide_false,cond_false])
theorem isoO.fin {o o':Out} (h:isoO o o') {L:NS} (hL:o'.fin=.ok L):o.fin=.error 1∨∃S,o.fin=.ok S∧S.within L=true:=by
 cases o' with
 |error e=>cases hL
 | ok z=>
  rcases AW z with e |e<;>rw[e] at hL<;>cases hL
  obtain⟨S,rfl,hS⟩:=h _ rfl
  rcases AW S with e |e
  ·exact .inr ⟨S,e,hS⟩
  ·exact .inl e
theorem x8 {x y:NS} (h:x.within y=true):isoO (.ok x) (.ok y):=fun L e=>by cases e;exact⟨x,rfl,h⟩
end Go.Q
