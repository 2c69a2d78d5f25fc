/-
  One step of an elimination on a matrix of intervals, and what stands on it. Conditions: each theorem's own.
-/
import Derived.Shelf.Abstract
import Derived.WalkKit
import Derived.OwnWalkIn
import Derived.TacticsInMore
import Derived.LoopNIn
import Derived.LoopIn
import Derived.Test.YtdhfkmaejkgceaaGreatDoorKd5888dPkO
import Derived.Test.YtdhfkmaejkgceaaGreatDoorK678323PkP
import Derived.Test.YtdhfkmaejkgceaaGreatDoorK84a2d9PkN
import Derived.Test.YtdhfkmaejkgceaaGreatDoorKcd334aPkR
import Derived.Test.YtdhfkmaejkgceaaGreatDoorK17ab04PkQ
set_option linter.unusedVariables false
set_option linter.unusedSimpArgs false
open Nat renaming reduceBEq→ξ,reduceAdd→ζ,le_trans→χ,le_refl→η
namespace Go.Q
open Go.Proofs Go.RowKit
attribute [local go_sem] Oper.semAt_some
set_option maxRecDepth 100000
set_option maxHeartbeats 16000000
section
variable {F:Fence} {n:Nat} {P:Program} {Q:Exit→Act→World→Prop} {o:Oper} {a:Act} {w:World} {K:Act→World→Prop}
theorem inAlloc {T:TypeId} {z:Array Value} (ho:o.op=.alloc T) (hz:(execOp a.eval o).run P w=.ok (.value (.pointer (some ⟨w.heap.size,0,none⟩))) (w.alloc (.cells z T)))
  (h:K (a.put o.dst (.pointer (some ⟨w.heap.size,0,none⟩))) (w.alloc (.cells z T))):o.wpIn F n P a w K Q:=by
 unfold Oper.wpIn
 refine⟨by simp[Oper.about,ho],?_⟩
 rw[Oper.semAt_plain _ _ _ (by rw[ho];intro c e;cases e),hz,Oper.uponIn_value]
 exact h
end
theorem Mx.kept {W:World} {hp:PH} {WB off r n:Nat} {g cp:Nat→Nat} {M:Nat→Nat→RI} (m:Mx W hp WB off r n g cp M) {W':World} {b:Nat} (hg:W.grownBy W' (some b)) (h0:hp b=none) (h1:b≠WB) (h2:∀i,i < r→b≠g i):Mx W' hp WB off r n g cp M:=by
 refine⟨m.has.kept hg (fun r e=>by cases e;exact h0),fun i hi=>hg.cell (a:=⟨WB,off+i,none⟩) (m.outer i hi) (fun e=>h1 (Option.some.inj e).symm),fun i hi=>?_,m.priv,m.inj⟩
 obtain⟨cs,T,k1,k2,k3⟩:=m.row i hi
 exact⟨cs,T,(hg.block _ (Array.getElem?_eq_some_iff.1 k1).1 (fun e=>h2 i hi (Option.some.inj e).symm)).trans k1,k2,k3⟩
theorem cellB {w w':World} (hb:Below w.heap.size w w') {a:Addr} {v:Value} (h:w.cell? a=some v):w'.cell? a=some v:=(hb.cell (World.block_lt_of_cell? w a h)).trans h
theorem c8 {w:World} {b o:Nat} {v0 v1 v2 v3 v4 v5 v6 v7:Value} (h:∀(t:Nat) u,([v0,v1,v2,v3,v4,v5,v6,v7]:List Value)[t]?=some u→w.cell? ⟨b,o+t,none⟩=some u):w.cell? ⟨b,o,none⟩=some v0∧w.cell? ⟨b,o+1,none⟩=some v1∧w.cell? ⟨b,o+2,none⟩=some v2∧w.cell? ⟨b,o+3,none⟩=some v3∧w.cell? ⟨b,o+4,none⟩=some v4∧w.cell? ⟨b,o+5,none⟩=some v5∧w.cell? ⟨b,o+6,none⟩=some v6∧w.cell? ⟨b,o+7,none⟩=some v7:=
 ⟨h 0 _ rfl,h 1 _ rfl,h 2 _ rfl,h 3 _ rfl,h 4 _ rfl,h 5 _ rfl,h 6 _ rfl,h 7 _ rfl⟩
theorem Kx.below {n:Nat} {g:Nat→Nat} {A B C:World} (h:Kx n g A B) (k:Below B.heap.size B C):Kx n g A C:=h.trans (Kx.of_below k)
theorem Kx.put {n:Nat} {g:Nat→Nat} {A B C:World} {b:Nat} (h:Kx n g A B) (k:B.grownBy C (some b)) (hb:A.heap.size≤b∨∃i,i < n∧b=g i):Kx n g A C:=
 ⟨k.os.trans h.os,k.tape.trans h.tape,k.output.trans h.output,χ h.size k.size,fun c hc hn=>(k.block c (Nat.lt_of_lt_of_le hc h.size) (fun e=>by
  obtain rfl:c=b:=Option.some.inj e
  rcases hb with q |⟨i,q1,q2⟩
  ·omega
  ·exact hn i q1 q2)).trans (h.block c hc hn)⟩
structure ElS (W0:World) (h0:PH) (WB off n:Nat) (g cp:Nat→Nat) (M:Nat→Nat→RI) (W:World) (hp:PH):Prop where
 kx:Kx n g W0 W
 sub:Sub h0 hp
 new:New W0.heap.size h0 hp
 m:Mx W hp WB off n n g cp M
structure ElB (W0:World) (h0:PH) (WB off n:Nat) (g cp:Nat→Nat) (M:Nat→Nat→RI) (W:World) (hp:PH) (B:Nat) (vs:List Value):Prop extends ElS W0 h0 WB off n g cp M W hp where
 at_:∃T,W.heap[B]?=some (.cells vs.toArray T (0,0))
 priv:hp B=none
 out:B≠WB
 row:∀i,i < n→B≠g i
 base:W0.heap.size≤B
section
variable {W0:World} {h0:PH} {WB off n:Nat} {g cp:Nat→Nat} {M:Nat→Nat→RI} {W:World} {hp:PH}
theorem ElS.call (s:ElS W0 h0 WB off n g cp M W hp) {h':PH} {W':World} (hb:Below W.heap.size W W') (hh:Has W' h') (hs:Sub hp h') (hn:New W.heap.size hp h'):ElS W0 h0 WB off n g cp M W' h':=
 ⟨s.kx.below hb,s.sub.trans hs,fun k hk=>(hn k hk).elim (s.new k) (fun q=>.inr (χ s.kx.size q)),s.m.up hs hh hb hn⟩
theorem ElS.drew (s:ElS W0 h0 WB off n g cp M W hp):ElS W0 h0 WB off n g cp M W.drew hp:=s.call (gt W) (s.m.has.below (gt W)) (Sub.refl _) (fun _ h=>.inl h)
theorem ElS.alloc (s:ElS W0 h0 WB off n g cp M W hp) (hn:0 < n) (z:List Value) (T:TypeId):ElB W0 h0 WB off n g cp M (W.alloc (.cells z.toArray T)) hp W.heap.size z:=by
 have hb:Below W.heap.size W (W.alloc (.cells z.toArray T)):=(Below.refl _ W).alloc (η _) _
 refine⟨s.call hb (s.m.has.below hb) (Sub.refl _) (fun _ h=>.inl h),⟨T,World.alloc_heap_new W _⟩,?_,?_,fun i hi=>?_,s.kx.size⟩
 ·cases e:hp W.heap.size with
  |none=>rfl
  |some cs=>have:=s.m.has.lt e;omega
 ·have:=World.block_lt_of_cell? W _ (s.m.outer 0 hn)
  dsimp only at this;omega
 ·have:=s.m.lt hi;omega
theorem ElB.call {B:Nat} {vs:List Value} (s:ElB W0 h0 WB off n g cp M W hp B vs) {h':PH} {W':World} (hb:Below W.heap.size W W') (hh:Has W' h') (hs:Sub hp h') (hn:New W.heap.size hp h'):ElB W0 h0 WB off n g cp M W' h' B vs:=by
 obtain⟨T,h⟩:=s.at_
 have hlt:=(Array.getElem?_eq_some_iff.1 h).1
 refine⟨s.toElS.call hb hh hs hn,⟨T,(hb.block _ hlt).trans h⟩,?_,s.out,s.row,s.base⟩
 cases e:h' B with
 |none=>rfl
 | some cs=>
  rcases hn B (by rw[e];simp) with k |k
  ·exact absurd s.priv k
  ·omega
theorem ElB.drew {B:Nat} {vs:List Value} (s:ElB W0 h0 WB off n g cp M W hp B vs):ElB W0 h0 WB off n g cp M W.drew hp B vs:=s.call (gt W) (s.m.has.below (gt W)) (Sub.refl _) (fun _ h=>.inl h)
theorem ElB.k8 {B:Nat} {v0 v1 v2 v3 v4 v5 v6 v7:Value} (s:ElB W0 h0 WB off n g cp M W hp B [v0,v1,v2,v3,v4,v5,v6,v7]):W.cell? ⟨B,0,none⟩=some v0∧W.cell? ⟨B,1,none⟩=some v1∧W.cell? ⟨B,2,none⟩=some v2∧W.cell? ⟨B,3,none⟩=some v3∧W.cell? ⟨B,4,none⟩=some v4∧W.cell? ⟨B,5,none⟩=some v5∧W.cell? ⟨B,6,none⟩=some v6∧W.cell? ⟨B,7,none⟩=some v7:=by
 obtain⟨T,h⟩:=s.at_
 have:=fun i=>bx_cell h i
 exact⟨this 0,this 1,this 2,this 3,this 4,this 5,this 6,this 7⟩
theorem ElB.fill {B:Nat} {us vs:List Value} (s:ElB W0 h0 WB off n g cp M W hp B us) (hu:us.length=8) (hv:vs.length=8) {T:TypeId} {W':World} (h:W'.heap[B]?=some (.cells (spl us 0 vs).toArray T (0,0))) (hg:W.grownBy W' (some B)):ElB W0 h0 WB off n g cp M W' hp B vs:=by
 refine⟨⟨s.kx.put hg (.inl s.base),s.sub,s.new,s.m.kept hg s.priv s.out s.row⟩,⟨T,?_⟩,s.priv,s.out,s.row,s.base⟩
 rw[h]
 congr 3
 refine List.ext_getElem? fun t=>?_
 rw[spl_drop _ _ _ _ (by omega)]
 split
 ·rw[Nat.sub_zero]
 ·rw[List.getElem?_eq_none (by omega),List.getElem?_eq_none (by omega)]
theorem ElS.set (s:ElS W0 h0 WB off n g cp M W hp) {i j:Nat} (hi:i < n) (hj:j < n) {W':World} {cs vs:List Value} {T:TypeId} {x:RI} (h1:W.heap[g i]?=some (.cells cs.toArray T (0,0))) (hv:vs.length=8) (hx:Iv hp (.agg vs.toArray) x)
  (h2:W'.heap[g i]?=some (.cells (spl cs (j*8) vs).toArray T (0,0))) (hg:W.grownBy W' (some (g i))):ElS W0 h0 WB off n g cp (fun a b=>if a=i∧b=j then x else M a b) W' hp:=
 ⟨s.kx.put hg (.inr ⟨i,hi,rfl⟩),s.sub,s.new,s.m.set hi hj h1 hv hx h2 hg⟩
end
def Enz (o:Out):Prop:=∀e,o=.error e→e≠0
theorem prec_nz {p:Int} {o:Out} (h:Enz o):Enz (Out.prec p o):=fun e he=>by
 unfold Out.prec at he
 cases g:bad p with
 |true=>rw[g] at he;cases he;decide
 |false=>rw[g] at he;exact h e he
theorem rnd_nz {p:Int} {x y:NS} {o:Out} (h:Enz o):Enz (rnd p x y o):=prec_nz fun e he=>by
 cases g:(x.void || y.void) with
 |true=>rw[g] at he;cases he
 | false=>
  rw[g] at he
  cases o with
  |error e'=>cases he;exact h _ rfl
  |ok z=>cases he
theorem fin2_nz {x y:RI} {o:Out} (h:Enz o):Enz (x.fin2 y o):=fun e he=>by
 unfold RI.fin2 at he
 cases g:(x.big || y.big) with
 |true=>rw[g] at he;cases he;decide
 | false=>
  rw[g,cond_false] at he
  cases o with
  |error e'=>cases he;exact h _ rfl
  | ok z=>
   unfold Out.fin at he
   dsimp only at he
   cases g:decide (z.le 2048) with
   |true=>rw[g] at he;cases he
   |false=>rw[g] at he;cases he;decide
theorem mulE_nz {p:Int} {x y:RI}:Enz (mulE p x y):=fin2_nz (rnd_nz fun e he=>by cases he)
theorem subE_nz {p:Int} {x y:RI}:Enz (subE p x y):=fin2_nz (rnd_nz fun e he=>by cases he)
theorem divE_nz {p:Int} {x y:RI}:Enz (divE p x y):=fin2_nz (rnd_nz fun e he=>by
 unfold divO at he
 cases g:y.set.zero with
 |true=>rw[g] at he;cases he;decide
 |false=>rw[g] at he;cases he)
theorem Ir.bad {h:PH} {u:Value} {e:Int} {o:Out} (k:Ir h (.tuple #[u,.int .i64 e]) o) (he:e≠0):okE o=false:=by
 cases o with
 |error e'=>rfl
 |ok z=>obtain⟨_,e1,_⟩:=k;simp at e1;exact absurd e1.2 he
theorem Ir.good {h:PH} {u:Value} {o:Out} (k:Ir h (.tuple #[u,.int .i64 0]) o) (hn:Enz o):∃z,o=.ok z∧Cv h u z:=by
 cases o with
 | error e'=>
  have e1:(.tuple #[u,.int .i64 0]:Value)=.tuple #[zIv,.int .i64 e']:=k
  simp at e1
  exact absurd e1.2.symm (hn _ rfl)
 |ok z=>obtain⟨_,e1,k⟩:=k;simp at e1;subst e1;exact⟨z,rfl,k⟩
theorem elE_mul {p:Int} {kk ki kj ij:RI} (h:okE (mulE p ki kj)=false):okE (elE p kk ki kj ij)=false:=by
 unfold elE;cases e:mulE p ki kj with
 |error _=>rfl
 |ok z=>rw[e] at h;cases h
theorem elE_div {p:Int} {kk ki kj ij:RI} {x:NS} (e:mulE p ki kj=.ok x) (h:okE (divE p x.ri kk)=false):okE (elE p kk ki kj ij)=false:=by
 unfold elE;rw[e];dsimp only
 cases e:divE p x.ri kk with
 |error _=>rfl
 |ok z=>rw[e] at h;cases h
theorem elE_ok {p:Int} {kk ki kj ij:RI} {x y:NS} (e1:mulE p ki kj=.ok x) (e2:divE p x.ri kk=.ok y):elE p kk ki kj ij=subE p ij y.ri:=by unfold elE;rw[e1];dsimp only;rw[e2]
theorem not_elB {p:Int} {k n i j:Nat} {M:Nat→Nat→RI} (h1:k < i) (h2:i≤j) (h3:j < n) (h:okE (elE p (M k k) (M k i) (M k j) (M i j))=false):¬elB p k n M:=fun g=>by rw[g i j h1 h2 h3] at h;cases h
theorem stB_next {p:Int} {k n i j:Nat} {M:Nat→Nat→RI} (h:stB p k n M i j) (hj:okE (elE p (M k k) (M k i) (M k j) (M i j))=true):stB p k n M i (j+1):=fun a b h1 h2 h3 h4=>by
 by_cases e:a=i∧b=j
 ·obtain⟨rfl,rfl⟩:=e;exact hj
 ·exact h a b h1 h2 h3 (by omega)
theorem Mx.congr {W:World} {hp:PH} {WB off r n:Nat} {g cp:Nat→Nat} {M M':Nat→Nat→RI} (m:Mx W hp WB off r n g cp M) (h:∀a b,b < n→M a b=M' a b):Mx W hp WB off r n g cp M':=
 ⟨m.has,m.outer,fun i hi=>let ⟨cs,T,k1,k2,k3⟩:=m.row i hi;⟨cs,T,k1,k2,fun j hj=>by rw[←h i j hj];exact k3 j hj⟩,m.priv,m.inj⟩
theorem stM_all {p:Int} {k n a b:Nat} {M:Nat→Nat→RI} (hb:b < n):stM p k M n n a b=elM p k M a b:=by
 unfold stM elM
 by_cases g:k < a∧a≤b
 ·rw[if_pos ⟨g.1,g.2,by omega⟩,if_pos g]
 ·rw[if_neg (fun q=>g ⟨q.1,q.2.1⟩),if_neg g]
theorem Iv.e8 {h:PH} {l:List Value} {x:RI} (r:Iv h (.agg l.toArray) x):l.length=8∧l.all Value.oneCell'=true:=by
 obtain⟨_,_,_,_,_,_,_,_,_,_,_,_,e,_,_⟩:=r.sa
 have e:l=_:=congrArg Array.toList (Value.agg.inj e)
 subst e;exact⟨rfl,rfl⟩
theorem elim_p {N : Nat} {W0:World} {h0:PH} {WB off n c:Nat} {g cp:Nat→Nat} {p:Int} {k:Nat} {M:Nat→Nat→RI} (m0:Mx W0 h0 WB off n n g cp M) (hn:n≤6) (hk:k < n) (hg:Sub mach.gl h0):
  CallsIn Fence.wide N Tryz.prog 33 #[.slice (some ⟨WB,off,none⟩) n c,.int .i64 k,.int .i64 p] W0 fun e W'=>(e=.returned (.bool true)∧elB p k n M∧∃hp,ElS W0 h0 WB off n g cp (elM p k M) W' hp)∨(e=.returned (.bool false)∧¬elB p k n M∧∃hp M',ElS W0 h0 WB off n g cp M' W' hp):=by
 refine callsIn_of_wp Tryz.func33 rfl trivial ?_ rfl
 simp only[Tryz.ntmps33,List.size_toArray,List.length_cons,List.length_nil,ζ,Nat.reduceSub,Array.replicate_succ,Array.replicate_zero,List.push_toArray,List.append_toArray,List.nil_append,List.cons_append]
 have hdd:∀k:Nat,(Fence.wide.depth.isSome=true→1≤k):=fun k h=>by cases h
 have hmix:Tryz.prog.follows .mixedOrders=true:=by kernel_rfl
 have htk:tk mach.P 41=some (some 8):=by kernel_rfl
 obtain⟨K,hK⟩:∃K:Int,(k:Int)=K:=⟨_,rfl⟩
 have hni:(n:Int)≤6:=by omega
 have hK1:0≤K∧K < n:=by omega
 have eK:K.toNat=k:=by omega
 rw[hK]
 gi_wp2
 gi_loopw [7] (fun q wr=>∃(I:Int) (i:Nat),(i:Int)=I∧k+1≤i∧i≤n∧q=.int .i64 I∧stB p k n M i i∧∃hp,ElS W0 h0 WB off n g cp (stM p k M i i) wr hp) (fun q _=>n - (RowKit.intOf q).toNat)
 case atStart=>exact⟨_,k+1,by omega,by omega,by omega,rfl,fun a b h1 h2 h3 h4=>by omega,h0,Kx.refl _ _ _,Sub.refl _,fun _ h=>.inl h,m0.congr fun a b _=>by unfold stM;rw[if_neg (by omega)]⟩
 case round=>
  obtain⟨I,i,eI,hi1,hi2,rfl,hst0,hp0,hI⟩:=hrel
  by_cases h2:I < n
  ·have hI1:0≤I:=by omega
   have eI2:I.toNat=i:=by omega
   gi_wp2
   gi_loopw [8] (fun q wr=>∃(J:Int) (j:Nat),(j:Int)=J∧i≤j∧j≤n∧q=.int .i64 J∧stB p k n M i j∧∃hp,ElS W0 h0 WB off n g cp (stM p k M i j) wr hp) (fun q _=>n - (RowKit.intOf q).toNat)
   case atStart=>exact⟨_,i,eI,by omega,by omega,rfl,hst0,hp0,hI⟩
   case round=>
    obtain⟨J,j,eJ,hj1,hj2,rfl,hst,hp,s⟩:=hrel
    by_cases h3:J < n
    ·have hJ1:0≤J:=by omega
     have eJ2:J.toNat=j:=by omega
     gi_wp2
     replace s:=s.drew
     obtain⟨bA1,aA1,mA1,kA1,aA2,mA2,kA2,bA2,aA3,mA3,kA3,aA4,mA4,kA4,eA1,eA2,dA,iA⟩:=s.m.entry (i:=k) (j:=i) (by omega) (by omega)
     obtain⟨bB1,aB1,mB1,kB1,aB2,mB2,kB2,bB2,aB3,mB3,kB3,aB4,mB4,kB4,eB1,eB2,dB,iB⟩:=s.m.entry (i:=k) (j:=j) (by omega) (by omega)
     rw[stM_row] at iA iB
     have ou:=s.m.outer k hk
     have F:=fun w' (hb:Below wr.drew.heap.size wr.drew w')=>And.intro (cellB hb ou) (And.intro (c8 fun t u hu=>cellB hb (dA t u hu)) (c8 fun t u hu=>cellB hb (dB t u hu)))
     refine wpIn_region_b hmix ?_
     refine tkP 0 rfl rfl (by kernel_rfl) (fun _ _ _ h=>h) (fun _=>rfl) (v:=?_) (fun w'=>?_) ?_
     rotate_left
     ·go_simp<;>rfl
     go_simp
     refine tkP 1 rfl rfl (by kernel_rfl) (fun _ _ _ h=>h) (fun _=>rfl) (v:=?_) (fun w'=>?_) ?_
     rotate_left
     ·go_simp<;>rfl
     go_simp
     refine tkP 2 rfl rfl (by kernel_rfl) (fun _ _ _ h=>h) (fun _=>rfl) (v:=?_) (fun w'=>?_) ?_
     rotate_left
     ·go_simp<;>rfl
     go_simp
     refine tkR 3 rfl rfl (by kernel_rfl) (fun _ _ _ h=>h) (fun _=>rfl) (v:=?_) (fun w' hb=>?_) ?_
     rotate_left
     ·obtain⟨q0,⟨qa0,qa1,qa2,qa3,qa4,qa5,qa6,qa7⟩,qb0,qb1,qb2,qb3,qb4,qb5,qb6,qb7⟩:=F w' hb
      go_simp<;>rfl
     go_simp
     refine tkP 4 rfl rfl (by kernel_rfl) (fun _ _ _ h=>h) (fun _=>rfl) (v:=?_) (fun w'=>?_) ?_
     rotate_left
     ·go_simp<;>rfl
     go_simp
     refine tkP 5 rfl rfl (by kernel_rfl) (fun _ _ _ h=>h) (fun _=>rfl) (v:=?_) (fun w'=>?_) ?_
     rotate_left
     ·go_simp<;>rfl
     go_simp
     refine tkR 6 rfl rfl (by kernel_rfl) (fun _ _ _ h=>h) (fun _=>rfl) (v:=?_) (fun w' hb=>?_) ?_
     rotate_left
     ·obtain⟨q0,⟨qa0,qa1,qa2,qa3,qa4,qa5,qa6,qa7⟩,qb0,qb1,qb2,qb3,qb4,qb5,qb6,qb7⟩:=F w' hb
      go_simp<;>rfl
     go_simp
     refine tkP 7 rfl rfl (by kernel_rfl) (fun _ _ _ h=>h) (fun _=>rfl) (v:=?_) (fun w'=>?_) ?_
     rotate_left
     ·go_simp<;>rfl
     go_simp
     refine tkP 8 rfl rfl (by kernel_rfl) (fun _ _ _ h=>h) (fun _=>rfl) (v:=?_) (fun w'=>?_) ?_
     rotate_left
     ·go_simp<;>rfl
     go_simp
     refine tkP 9 rfl rfl (by kernel_rfl) (fun _ _ _ h=>h) (fun _=>rfl) (v:=?_) (fun w'=>?_) ?_
     rotate_left
     ·go_simp<;>rfl
     go_simp
     refine tkR 10 rfl rfl (by kernel_rfl) (fun _ _ _ h=>h) (fun _=>rfl) (v:=?_) (fun w' hb=>?_) ?_
     rotate_left
     ·obtain⟨q0,⟨qa0,qa1,qa2,qa3,qa4,qa5,qa6,qa7⟩,qb0,qb1,qb2,qb3,qb4,qb5,qb6,qb7⟩:=F w' hb
      go_simp<;>rfl
     go_simp
     refine tkP 11 rfl rfl (by kernel_rfl) (fun _ _ _ h=>h) (fun _=>rfl) (v:=?_) (fun w'=>?_) ?_
     rotate_left
     ·go_simp<;>rfl
     go_simp
     refine tkP 12 rfl rfl (by kernel_rfl) (fun _ _ _ h=>h) (fun _=>rfl) (v:=?_) (fun w'=>?_) ?_
     rotate_left
     ·go_simp<;>rfl
     go_simp
     refine tkR 13 rfl rfl (by kernel_rfl) (fun _ _ _ h=>h) (fun _=>rfl) (v:=?_) (fun w' hb=>?_) ?_
     rotate_left
     ·obtain⟨q0,⟨qa0,qa1,qa2,qa3,qa4,qa5,qa6,qa7⟩,qb0,qb1,qb2,qb3,qb4,qb5,qb6,qb7⟩:=F w' hb
      go_simp<;>rfl
     go_simp
     refine tkP 14 rfl rfl (by kernel_rfl) (fun _ _ _ h=>h) (fun _=>rfl) (v:=?_) (fun w'=>?_) ?_
     rotate_left
     ·go_simp<;>rfl
     go_simp
     clear F
     refine tp2 15 19 rfl rfl rfl rfl (by kernel_rfl) (fun K' hK'=>?cA) (fun K' hK'=>?cB)
     case' cA=>
      go_simp
      refine⟨trivial,hdd _,(callsIn_wide.2 ((gH (h0:=hp) (h:=hp) (p:=p) iA iB).run _ s.m.has (hg.trans s.sub))).mono ?_⟩
      intro e W1 hP;obtain⟨u,h1,rfl,t1,t2,t3,t4,r⟩:=post_ret hP;clear hP
      replace s:=s.call t1 t2 t3 t4
      obtain⟨p1,p2,p3,p4,p5,p6,p7,p8,p9,p10,p11,p12,p13,p14,p15,p16,e,rfl,r⟩:=r.sa
      refine hK' _ _ ⟨.inr (.inr t1),?_⟩
      clear hK' K'
      go_simp
      refine tkP 16 rfl rfl (by kernel_rfl) (fun _ _ _ h=>h) (fun _=>rfl) (v:=?_) (fun w'=>?_) ?_
      rotate_left
      ·go_simp<;>rfl
      go_simp
      refine tkP 17 rfl rfl (by kernel_rfl) (fun _ _ _ h=>h) (fun _=>rfl) (v:=?_) (fun w'=>?_) ?_
      rotate_left
      ·go_simp<;>rfl
      go_simp
      refine tkP 18 rfl rfl (by kernel_rfl) (fun _ _ _ h=>h) (fun _=>rfl) (v:=?_) (fun w'=>?_) ?_
      rotate_left
      ·go_simp<;>rfl
      go_simp
      refine tpOne 19 rfl rfl (by kernel_rfl) fun K' hK'=>?_
      obtain⟨B,hB⟩:∃B,W1.heap.size=B:=⟨_,rfl⟩
      refine inAlloc (z:=[.bool false,.slice none 0 0,.slice none 0 0,.bool false,.slice none 0 0,.slice none 0 0,.bool false,.bool false].toArray) rfl (by go_simp<;>rfl) ?_
      refine hK' _ _ ⟨.inr (.inr ((Below.refl _ _).alloc (η _) _)),?_⟩
      clear hK' K'
      have s':=s.alloc (by omega) [.bool false,.slice none 0 0,.slice none 0 0,.bool false,.slice none 0 0,.slice none 0 0,.bool false,.bool false] 41
      clear s;have s:=s';clear s'
      rw[hB] at s ⊢
      go_simp
      clear hB
      refine tpOne 20 rfl rfl (by kernel_rfl) fun K' hK'=>?_
      obtain⟨T,hT⟩:=s.at_
      refine wpIn_store_box (M:=mach) rfl B 0 [.bool p1,.slice p2 p3 p4,.slice p5 p6 p7,.bool p8,.slice p9 p10 p11,.slice p12 p13 p14,.bool p15,.bool p16] _ rfl (by go_simp<;>rfl) (by go_simp<;>rfl) htk rfl rfl hT (by simp) ?_
      intro W3 hW3 hg3
      have s':=s.fill (vs:=[.bool p1,.slice p2 p3 p4,.slice p5 p6 p7,.bool p8,.slice p9 p10 p11,.slice p12 p13 p14,.bool p15,.bool p16]) rfl rfl hW3 hg3
      clear s;have s:=s';clear s'
      refine hK' _ _ ⟨.inl rfl,?_⟩
      clear hK' K' hT hW3 hg3
      go_simp
      refine tkP 21 rfl rfl (by kernel_rfl) (fun _ _ _ h=>h) (fun _=>rfl) (v:=?_) (fun w'=>?_) ?_
      rotate_left
      ·go_simp<;>rfl
      go_simp
      refine doneB (by kernel_rfl) ?_ 0
     case' cB=>
      obtain⟨B,hB⟩:∃B,wr.drew.heap.size=B:=⟨_,rfl⟩
      refine inAlloc (z:=[.bool false,.slice none 0 0,.slice none 0 0,.bool false,.slice none 0 0,.slice none 0 0,.bool false,.bool false].toArray) rfl (by go_simp<;>rfl) ?_
      refine hK' _ _ ⟨.inr (.inr ((Below.refl _ _).alloc (η _) _)),?_⟩
      clear hK' K'
      have s':=s.alloc (by omega) [.bool false,.slice none 0 0,.slice none 0 0,.bool false,.slice none 0 0,.slice none 0 0,.bool false,.bool false] 41
      clear s;have s:=s';clear s'
      rw[hB] at s ⊢
      go_simp
      clear hB
      refine tpOne 15 rfl rfl (by kernel_rfl) fun K' hK'=>?_
      go_simp
      refine⟨trivial,hdd _,(callsIn_wide.2 ((gH (h0:=hp) (h:=hp) (p:=p) iA iB).run _ s.m.has (hg.trans s.sub))).mono ?_⟩
      intro e W1 hP;obtain⟨u,h1,rfl,t1,t2,t3,t4,r⟩:=post_ret hP;clear hP
      replace s:=s.call t1 t2 t3 t4
      obtain⟨p1,p2,p3,p4,p5,p6,p7,p8,p9,p10,p11,p12,p13,p14,p15,p16,e,rfl,r⟩:=r.sa
      refine hK' _ _ ⟨.inr (.inr t1),?_⟩
      clear hK' K'
      go_simp
      refine tkP 16 rfl rfl (by kernel_rfl) (fun _ _ _ h=>h) (fun _=>rfl) (v:=?_) (fun w'=>?_) ?_
      rotate_left
      ·go_simp<;>rfl
      go_simp
      refine tkP 17 rfl rfl (by kernel_rfl) (fun _ _ _ h=>h) (fun _=>rfl) (v:=?_) (fun w'=>?_) ?_
      rotate_left
      ·go_simp<;>rfl
      go_simp
      refine tkP 18 rfl rfl (by kernel_rfl) (fun _ _ _ h=>h) (fun _=>rfl) (v:=?_) (fun w'=>?_) ?_
      rotate_left
      ·go_simp<;>rfl
      go_simp
      refine tpOne 20 rfl rfl (by kernel_rfl) fun K' hK'=>?_
      obtain⟨T,hT⟩:=s.at_
      refine wpIn_store_box (M:=mach) rfl B 0 [.bool p1,.slice p2 p3 p4,.slice p5 p6 p7,.bool p8,.slice p9 p10 p11,.slice p12 p13 p14,.bool p15,.bool p16] _ rfl (by go_simp<;>rfl) (by go_simp<;>rfl) htk rfl rfl hT (by simp) ?_
      intro W3 hW3 hg3
      have s':=s.fill (vs:=[.bool p1,.slice p2 p3 p4,.slice p5 p6 p7,.bool p8,.slice p9 p10 p11,.slice p12 p13 p14,.bool p15,.bool p16]) rfl rfl hW3 hg3
      clear s;have s:=s';clear s'
      refine hK' _ _ ⟨.inl rfl,?_⟩
      clear hK' K' hT hW3 hg3
      go_simp
      refine tkP 21 rfl rfl (by kernel_rfl) (fun _ _ _ h=>h) (fun _=>rfl) (v:=?_) (fun w'=>?_) ?_
      rotate_left
      ·go_simp<;>rfl
      go_simp
      refine doneB (by kernel_rfl) ?_ 0
     all_goals
      clear ou dA dB iA iB
      replace r:Ir h1 _ (mulE p (M k i) (M k j)):=r
      gi_wp2
      ·go_ret
       exact .inr ⟨rfl,not_elB (by omega) (by omega) (by omega) (elE_mul (r.bad (by simpa using (show(e != 0)=true by assumption)))),h1,_,s.toElS⟩
      ·skip
       obtain rfl:e=0:=by simpa using (show(e != 0)=false by assumption)
       obtain⟨x,ex,cx⟩:=r.good mulE_nz
       replace s:=s.drew
       obtain⟨bC1,aC1,mC1,kC1,aC2,mC2,kC2,bC2,aC3,mC3,kC3,aC4,mC4,kC4,eC1,eC2,dC,iC⟩:=s.m.entry (i:=k) (j:=k) (by omega) (by omega)
       rw[stM_row] at iC
       have iX:=cx.iv (fin2_le ex)
       have ou:=s.m.outer k hk
       have F:=fun w' (hb:Below W3.drew.heap.size W3.drew w')=>And.intro (cellB hb ou) (And.intro (c8 fun t u hu=>cellB hb (dC t u hu)) (let q:=s.k8;And.intro (cellB hb q.1) (And.intro (cellB hb q.2.1) (And.intro (cellB hb q.2.2.1) (And.intro (cellB hb q.2.2.2.1) (And.intro (cellB hb q.2.2.2.2.1) (And.intro (cellB hb q.2.2.2.2.2.1) (And.intro (cellB hb q.2.2.2.2.2.2.1) (cellB hb q.2.2.2.2.2.2.2)))))))))
       refine wpIn_region_b hmix ?_
       refine tkR 0 rfl rfl (by kernel_rfl) (fun _ _ _ h=>h) (fun _=>rfl) (v:=?_) (fun w' hb=>?_) ?_
       rotate_left
       ·obtain⟨q0,⟨qa0,qa1,qa2,qa3,qa4,qa5,qa6,qa7⟩,qx0,qx1,qx2,qx3,qx4,qx5,qx6,qx7⟩:=F w' hb
        go_simp<;>rfl
       go_simp
       refine tkP 1 rfl rfl (by kernel_rfl) (fun _ _ _ h=>h) (fun _=>rfl) (v:=?_) (fun w'=>?_) ?_
       rotate_left
       ·go_simp<;>rfl
       go_simp
       refine tkP 2 rfl rfl (by kernel_rfl) (fun _ _ _ h=>h) (fun _=>rfl) (v:=?_) (fun w'=>?_) ?_
       rotate_left
       ·go_simp<;>rfl
       go_simp
       refine tkP 3 rfl rfl (by kernel_rfl) (fun _ _ _ h=>h) (fun _=>rfl) (v:=?_) (fun w'=>?_) ?_
       rotate_left
       ·go_simp<;>rfl
       go_simp
       refine tkR 4 rfl rfl (by kernel_rfl) (fun _ _ _ h=>h) (fun _=>rfl) (v:=?_) (fun w' hb=>?_) ?_
       rotate_left
       ·obtain⟨q0,⟨qa0,qa1,qa2,qa3,qa4,qa5,qa6,qa7⟩,qx0,qx1,qx2,qx3,qx4,qx5,qx6,qx7⟩:=F w' hb
        go_simp<;>rfl
       go_simp
       refine tkP 5 rfl rfl (by kernel_rfl) (fun _ _ _ h=>h) (fun _=>rfl) (v:=?_) (fun w'=>?_) ?_
       rotate_left
       ·go_simp<;>rfl
       go_simp
       refine tkP 6 rfl rfl (by kernel_rfl) (fun _ _ _ h=>h) (fun _=>rfl) (v:=?_) (fun w'=>?_) ?_
       rotate_left
       ·go_simp<;>rfl
       go_simp
       refine tkR 7 rfl rfl (by kernel_rfl) (fun _ _ _ h=>h) (fun _=>rfl) (v:=?_) (fun w' hb=>?_) ?_
       rotate_left
       ·obtain⟨q0,⟨qa0,qa1,qa2,qa3,qa4,qa5,qa6,qa7⟩,qx0,qx1,qx2,qx3,qx4,qx5,qx6,qx7⟩:=F w' hb
        go_simp<;>rfl
       go_simp
       refine tkP 8 rfl rfl (by kernel_rfl) (fun _ _ _ h=>h) (fun _=>rfl) (v:=?_) (fun w'=>?_) ?_
       rotate_left
       ·go_simp<;>rfl
       go_simp
       clear F ou dC
       refine tpOne 9 rfl rfl (by kernel_rfl) fun K' hK'=>?_
       replace iX:=iX
       go_simp
       refine⟨trivial,hdd _,(callsIn_wide.2 ((mH (h0:=h1) (h:=h1) (p:=p) iX iC).run _ s.m.has (hg.trans s.sub))).mono ?_⟩
       intro e W1 hP;obtain⟨u,h1,rfl,t1,t2,t3,t4,r⟩:=post_ret hP;clear hP
       replace s:=s.call t1 t2 t3 t4
       obtain⟨p1,p2,p3,p4,p5,p6,p7,p8,p9,p10,p11,p12,p13,p14,p15,p16,e,rfl,r⟩:=r.sa
       refine hK' _ _ ⟨.inr (.inr t1),?_⟩
       clear hK' K'
       go_simp
       refine tkP 10 rfl rfl (by kernel_rfl) (fun _ _ _ h=>h) (fun _=>rfl) (v:=?_) (fun w'=>?_) ?_
       rotate_left
       ·go_simp<;>rfl
       go_simp
       refine tkP 11 rfl rfl (by kernel_rfl) (fun _ _ _ h=>h) (fun _=>rfl) (v:=?_) (fun w'=>?_) ?_
       rotate_left
       ·go_simp<;>rfl
       go_simp
       refine tkP 12 rfl rfl (by kernel_rfl) (fun _ _ _ h=>h) (fun _=>rfl) (v:=?_) (fun w'=>?_) ?_
       rotate_left
       ·go_simp<;>rfl
       go_simp
       refine tpOne 13 rfl rfl (by kernel_rfl) fun K' hK'=>?_
       obtain⟨T,hT⟩:=s.at_
       refine wpIn_store_box (M:=mach) rfl B 0 [.bool p1,.slice p2 p3 p4,.slice p5 p6 p7,.bool p8,.slice p9 p10 p11,.slice p12 p13 p14,.bool p15,.bool p16] _ rfl (by go_simp<;>rfl) (by go_simp<;>rfl) htk rfl rfl hT (by simp) ?_
       intro W3 hW3 hg3
       have s':=s.fill (vs:=[.bool p1,.slice p2 p3 p4,.slice p5 p6 p7,.bool p8,.slice p9 p10 p11,.slice p12 p13 p14,.bool p15,.bool p16]) rfl rfl hW3 hg3
       clear s;have s:=s';clear s'
       refine hK' _ _ ⟨.inl rfl,?_⟩
       clear hK' K' hT hW3 hg3
       go_simp
       refine tkP 14 rfl rfl (by kernel_rfl) (fun _ _ _ h=>h) (fun _=>rfl) (v:=?_) (fun w'=>?_) ?_
       rotate_left
       ·go_simp<;>rfl
       go_simp
       refine doneB (by kernel_rfl) ?_ 0
       replace r:Ir h1 _ (divE p x.ri (M k k)):=r
       gi_wp2
       ·go_ret
        exact .inr ⟨rfl,not_elB (by omega) (by omega) (by omega) (elE_div ex (r.bad (by simpa using (show(e != 0)=true by assumption)))),h1,_,s.toElS⟩
       ·skip
        obtain rfl:e=0:=by simpa using (show(e != 0)=false by assumption)
        obtain⟨y,ey,cy⟩:=r.good divE_nz
        replace s:=s.drew
        obtain⟨bD1,aD1,mD1,kD1,aD2,mD2,kD2,bD2,aD3,mD3,kD3,aD4,mD4,kD4,eD1,eD2,dD,iD⟩:=s.m.entry (i:=i) (j:=j) (by omega) (by omega)
        rw[stM_at] at iD
        have iY:=cy.iv (fin2_le ey)
        have ou:=s.m.outer i (by omega)
        have F:=fun w' (hb:Below W3.drew.heap.size W3.drew w')=>And.intro (cellB hb ou) (And.intro (c8 fun t u hu=>cellB hb (dD t u hu)) (let q:=s.k8;And.intro (cellB hb q.1) (And.intro (cellB hb q.2.1) (And.intro (cellB hb q.2.2.1) (And.intro (cellB hb q.2.2.2.1) (And.intro (cellB hb q.2.2.2.2.1) (And.intro (cellB hb q.2.2.2.2.2.1) (And.intro (cellB hb q.2.2.2.2.2.2.1) (cellB hb q.2.2.2.2.2.2.2)))))))))
        refine wpIn_region_b hmix ?_
        refine tkP 0 rfl rfl (by kernel_rfl) (fun _ _ _ h=>h) (fun _=>rfl) (v:=?_) (fun w'=>?_) ?_
        rotate_left
        ·go_simp<;>rfl
        go_simp
        refine tkP 1 rfl rfl (by kernel_rfl) (fun _ _ _ h=>h) (fun _=>rfl) (v:=?_) (fun w'=>?_) ?_
        rotate_left
        ·go_simp<;>rfl
        go_simp
        refine tkP 2 rfl rfl (by kernel_rfl) (fun _ _ _ h=>h) (fun _=>rfl) (v:=?_) (fun w'=>?_) ?_
        rotate_left
        ·go_simp<;>rfl
        go_simp
        refine tkR 3 rfl rfl (by kernel_rfl) (fun _ _ _ h=>h) (fun _=>rfl) (v:=?_) (fun w' hb=>?_) ?_
        rotate_left
        ·obtain⟨q0,⟨qa0,qa1,qa2,qa3,qa4,qa5,qa6,qa7⟩,qx0,qx1,qx2,qx3,qx4,qx5,qx6,qx7⟩:=F w' hb
         go_simp<;>rfl
        go_simp
        refine tkP 4 rfl rfl (by kernel_rfl) (fun _ _ _ h=>h) (fun _=>rfl) (v:=?_) (fun w'=>?_) ?_
        rotate_left
        ·go_simp<;>rfl
        go_simp
        refine tkP 5 rfl rfl (by kernel_rfl) (fun _ _ _ h=>h) (fun _=>rfl) (v:=?_) (fun w'=>?_) ?_
        rotate_left
        ·go_simp<;>rfl
        go_simp
        refine tkR 6 rfl rfl (by kernel_rfl) (fun _ _ _ h=>h) (fun _=>rfl) (v:=?_) (fun w' hb=>?_) ?_
        rotate_left
        ·obtain⟨q0,⟨qa0,qa1,qa2,qa3,qa4,qa5,qa6,qa7⟩,qx0,qx1,qx2,qx3,qx4,qx5,qx6,qx7⟩:=F w' hb
         go_simp<;>rfl
        go_simp
        refine tkR 7 rfl rfl (by kernel_rfl) (fun _ _ _ h=>h) (fun _=>rfl) (v:=?_) (fun w' hb=>?_) ?_
        rotate_left
        ·obtain⟨q0,⟨qa0,qa1,qa2,qa3,qa4,qa5,qa6,qa7⟩,qx0,qx1,qx2,qx3,qx4,qx5,qx6,qx7⟩:=F w' hb
         go_simp<;>rfl
        go_simp
        refine tkP 8 rfl rfl (by kernel_rfl) (fun _ _ _ h=>h) (fun _=>rfl) (v:=?_) (fun w'=>?_) ?_
        rotate_left
        ·go_simp<;>rfl
        go_simp
        clear F ou dD
        refine tpOne 9 rfl rfl (by kernel_rfl) fun K' hK'=>?_
        go_simp
        refine⟨trivial,hdd _,(callsIn_wide.2 ((qA (h0:=h1) (h:=h1) (p:=p) iD iY).run _ s.m.has (hg.trans s.sub))).mono ?_⟩
        intro e W1 hP;obtain⟨u,h1,rfl,t1,t2,t3,t4,r⟩:=post_ret hP;clear hP
        replace s:=s.call t1 t2 t3 t4
        obtain⟨p1,p2,p3,p4,p5,p6,p7,p8,p9,p10,p11,p12,p13,p14,p15,p16,e,rfl,r⟩:=r.sa
        refine hK' _ _ ⟨.inr (.inr t1),?_⟩
        clear hK' K'
        go_simp
        refine tkP 10 rfl rfl (by kernel_rfl) (fun _ _ _ h=>h) (fun _=>rfl) (v:=?_) (fun w'=>?_) ?_
        rotate_left
        ·go_simp<;>rfl
        go_simp
        refine tkP 11 rfl rfl (by kernel_rfl) (fun _ _ _ h=>h) (fun _=>rfl) (v:=?_) (fun w'=>?_) ?_
        rotate_left
        ·go_simp<;>rfl
        go_simp
        refine tkP 12 rfl rfl (by kernel_rfl) (fun _ _ _ h=>h) (fun _=>rfl) (v:=?_) (fun w'=>?_) ?_
        rotate_left
        ·go_simp<;>rfl
        go_simp
        refine tpOne 13 rfl rfl (by kernel_rfl) fun K' hK'=>?_
        obtain⟨T,hT⟩:=s.at_
        refine wpIn_store_box (M:=mach) rfl B 0 [.bool p1,.slice p2 p3 p4,.slice p5 p6 p7,.bool p8,.slice p9 p10 p11,.slice p12 p13 p14,.bool p15,.bool p16] _ rfl (by go_simp<;>rfl) (by go_simp<;>rfl) htk rfl rfl hT (by simp) ?_
        intro W3 hW3 hg3
        have s':=s.fill (vs:=[.bool p1,.slice p2 p3 p4,.slice p5 p6 p7,.bool p8,.slice p9 p10 p11,.slice p12 p13 p14,.bool p15,.bool p16]) rfl rfl hW3 hg3
        clear s;have s:=s';clear s'
        refine hK' _ _ ⟨.inl rfl,?_⟩
        clear hK' K' hT hW3 hg3
        go_simp
        refine tkP 14 rfl rfl (by kernel_rfl) (fun _ _ _ h=>h) (fun _=>rfl) (v:=?_) (fun w'=>?_) ?_
        rotate_left
        ·go_simp<;>rfl
        go_simp
        refine doneB (by kernel_rfl) ?_ 0
        replace r:Ir h1 _ (subE p (M i j) y.ri):=r
        rw[←elE_ok (kk:=M k k) (ij:=M i j) ex ey] at r
        gi_wp2
        ·go_ret
         exact .inr ⟨rfl,not_elB (by omega) (by omega) (by omega) (r.bad (by simpa using (show(e != 0)=true by assumption))),h1,_,s.toElS⟩
        ·skip
         have hez:Enz (elE p (M k k) (M k i) (M k j) (M i j)):=by rw[elE_ok ex ey];exact subE_nz
         obtain rfl:e=0:=by simpa using (show(e != 0)=false by assumption)
         obtain⟨z,ez,cz⟩:=r.good hez
         replace s:=s.drew
         have iZ:=cz.iv (by rw[elE_ok ex ey] at ez;exact fin2_le ez)
         have ou:=s.m.outer i (by omega)
         have F:=fun w' (hb:Below W3.drew.heap.size W3.drew w')=>And.intro (cellB hb ou) (let q:=s.k8;And.intro (cellB hb q.1) (And.intro (cellB hb q.2.1) (And.intro (cellB hb q.2.2.1) (And.intro (cellB hb q.2.2.2.1) (And.intro (cellB hb q.2.2.2.2.1) (And.intro (cellB hb q.2.2.2.2.2.1) (And.intro (cellB hb q.2.2.2.2.2.2.1) (cellB hb q.2.2.2.2.2.2.2))))))))
         refine wpIn_region_b hmix ?_
         refine tkP 0 rfl rfl (by kernel_rfl) (fun _ _ _ h=>h) (fun _=>rfl) (v:=?_) (fun w'=>?_) ?_
         rotate_left
         ·go_simp<;>rfl
         go_simp
         refine tkP 1 rfl rfl (by kernel_rfl) (fun _ _ _ h=>h) (fun _=>rfl) (v:=?_) (fun w'=>?_) ?_
         rotate_left
         ·go_simp<;>rfl
         go_simp
         refine tkP 2 rfl rfl (by kernel_rfl) (fun _ _ _ h=>h) (fun _=>rfl) (v:=?_) (fun w'=>?_) ?_
         rotate_left
         ·go_simp<;>rfl
         go_simp
         refine tkR 3 rfl rfl (by kernel_rfl) (fun _ _ _ h=>h) (fun _=>rfl) (v:=?_) (fun w' hb=>?_) ?_
         rotate_left
         ·obtain⟨q0,qx0,qx1,qx2,qx3,qx4,qx5,qx6,qx7⟩:=F w' hb
          go_simp<;>rfl
         go_simp
         refine tkP 4 rfl rfl (by kernel_rfl) (fun _ _ _ h=>h) (fun _=>rfl) (v:=?_) (fun w'=>?_) ?_
         rotate_left
         ·go_simp<;>rfl
         go_simp
         refine tkR 5 rfl rfl (by kernel_rfl) (fun _ _ _ h=>h) (fun _=>rfl) (v:=?_) (fun w' hb=>?_) ?_
         rotate_left
         ·obtain⟨q0,qx0,qx1,qx2,qx3,qx4,qx5,qx6,qx7⟩:=F w' hb
          go_simp<;>rfl
         go_simp
         refine tkP 6 rfl rfl (by kernel_rfl) (fun _ _ _ h=>h) (fun _=>rfl) (v:=?_) (fun w'=>?_) ?_
         rotate_left
         ·go_simp<;>rfl
         go_simp
         clear F ou
         refine tpOne 7 rfl rfl (by kernel_rfl) fun K' hK'=>?_
         obtain⟨cs,T,hT,hl,_⟩:=s.m.row i (by omega)
         refine wpIn_store_box (M:=mach) rfl (g i) (j*8) [.bool p1,.slice p2 p3 p4,.slice p5 p6 p7,.bool p8,.slice p9 p10 p11,.slice p12 p13 p14,.bool p15,.bool p16] _ rfl (by go_simp<;>rfl) (by go_simp<;>rfl) htk rfl rfl hT (by simp;omega) ?_
         intro W4 hW4 hg4
         have s4:=s.toElS.set (by omega) (by omega) hT (vs:=[.bool p1,.slice p2 p3 p4,.slice p5 p6 p7,.bool p8,.slice p9 p10 p11,.slice p12 p13 p14,.bool p15,.bool p16]) rfl iZ hW4 hg4
         rw[stM_next (by omega) (by omega) ez] at s4
         refine hK' _ _ ⟨.inl rfl,?_⟩
         clear hK' K' hT hW4 hg4
         go_simp
         refine doneB (by kernel_rfl) ?_ 0
         gi_wp2
         go_roundw
         case rel=>exact⟨_,j+1,by omega,by omega,by omega,rfl,stB_next hst (by rw[ez];rfl),h1,s4⟩
         case measure=>simp[RowKit.intOf];omega
    ·gi_wp2
     obtain rfl:j=n:=by omega
     go_roundw
     case rel=>exact⟨_,i+1,by omega,by omega,by omega,rfl,fun a b h1 h2 h3 h4=>hst a b h1 h2 h3 (by omega),hp,s.kx,s.sub,s.new,s.m.congr fun a b hb=>stM_line hb⟩
     case measure=>simp[RowKit.intOf];omega
  ·gi_wp2
   obtain rfl:i=n:=by omega
   go_ret
   exact .inl ⟨rfl,fun a b h1 h2 h3=>hst0 a b h1 h2 h3 (.inl (by omega)),hp0,hI.kx,hI.sub,hI.new,hI.m.congr fun a b hb=>stM_all hb⟩
theorem relim_p {N:Nat} {W0:World} {h0:PH} {WB off n c:Nat} {g cp:Nat→Nat} {p:Int} {k:Nat} {M:Nat→Nat→RI} (m0:Mx W0 h0 WB off n n g cp M) (hn:n≤6) (hk:k < n) (hg:Sub mach.gl h0):
  CallsIn Fence.wide N Tryz.prog 37 #[.slice (some ⟨WB,off,none⟩) n c,.int .i64 k,.int .i64 p] W0 fun e W'=>(e=.returned (.bool true)∧elB p k n M∧∃hp,ElS W0 h0 WB off n g cp (elM p k M) W' hp)∨(e=.returned (.bool false)∧¬elB p k n M∧∃hp M',ElS W0 h0 WB off n g cp M' W' hp):=by
 refine callsIn_of_wp Tryz.func37 rfl trivial ?_ rfl
 simp only[Tryz.ntmps37,List.size_toArray,List.length_cons,List.length_nil,ζ,Nat.reduceSub,Array.replicate_succ,Array.replicate_zero,List.push_toArray,List.append_toArray,List.nil_append,List.cons_append]
 have hdd:∀k:Nat,(Fence.wide.depth.isSome=true→1≤k):=fun k h=>by cases h
 have hmix:Tryz.prog.follows .mixedOrders=true:=by kernel_rfl
 have htk:tk mach.P 41=some (some 8):=by kernel_rfl
 obtain⟨K,hK⟩:∃K:Int,(k:Int)=K:=⟨_,rfl⟩
 have hni:(n:Int)≤6:=by omega
 have hK1:0≤K∧K < n:=by omega
 have eK:K.toNat=k:=by omega
 rw[hK]
 gi_wp2
 gi_loopw [7] (fun q wr=>∃(I:Int) (i:Nat),(i:Int)=I∧k+1≤i∧i≤n∧q=.int .i64 I∧stB p k n M i i∧∃hp,ElS W0 h0 WB off n g cp (stM p k M i i) wr hp) (fun q _=>n - (RowKit.intOf q).toNat)
 case atStart=>exact⟨_,k+1,by omega,by omega,by omega,rfl,fun a b h1 h2 h3 h4=>by omega,h0,Kx.refl _ _ _,Sub.refl _,fun _ h=>.inl h,m0.congr fun a b _=>by unfold stM;rw[if_neg (by omega)]⟩
 case round=>
  obtain⟨I,i,eI,hi1,hi2,rfl,hst0,hp0,hI⟩:=hrel
  by_cases h2:I < n
  ·have hI1:0≤I:=by omega
   have eI2:I.toNat=i:=by omega
   gi_wp2
   gi_loopw [8] (fun q wr=>∃(J:Int) (j:Nat),(j:Int)=J∧i≤j∧j≤n∧q=.int .i64 J∧stB p k n M i j∧∃hp,ElS W0 h0 WB off n g cp (stM p k M i j) wr hp) (fun q _=>n - (RowKit.intOf q).toNat)
   case atStart=>exact⟨_,i,eI,by omega,by omega,rfl,hst0,hp0,hI⟩
   case round=>
    obtain⟨J,j,eJ,hj1,hj2,rfl,hst,hp,s⟩:=hrel
    by_cases h3:J < n
    ·have hJ1:0≤J:=by omega
     have eJ2:J.toNat=j:=by omega
     gi_wp2
     replace s:=s.drew
     obtain⟨bA1,aA1,mA1,kA1,aA2,mA2,kA2,bA2,aA3,mA3,kA3,aA4,mA4,kA4,eA1,eA2,dA,iA⟩:=s.m.entry (i:=k) (j:=i) (by omega) (by omega)
     obtain⟨bB1,aB1,mB1,kB1,aB2,mB2,kB2,bB2,aB3,mB3,kB3,aB4,mB4,kB4,eB1,eB2,dB,iB⟩:=s.m.entry (i:=k) (j:=j) (by omega) (by omega)
     rw[stM_row] at iA iB
     have ou:=s.m.outer k hk
     have F:=fun w' (hb:Below wr.drew.heap.size wr.drew w')=>And.intro (cellB hb ou) (And.intro (c8 fun t u hu=>cellB hb (dA t u hu)) (c8 fun t u hu=>cellB hb (dB t u hu)))
     refine wpIn_region_b hmix ?_
     refine tkP 0 rfl rfl (by kernel_rfl) (fun _ _ _ h=>h) (fun _=>rfl) (v:=?_) (fun w'=>?_) ?_
     rotate_left
     ·go_simp<;>rfl
     go_simp
     refine tkP 1 rfl rfl (by kernel_rfl) (fun _ _ _ h=>h) (fun _=>rfl) (v:=?_) (fun w'=>?_) ?_
     rotate_left
     ·go_simp<;>rfl
     go_simp
     refine tkP 2 rfl rfl (by kernel_rfl) (fun _ _ _ h=>h) (fun _=>rfl) (v:=?_) (fun w'=>?_) ?_
     rotate_left
     ·go_simp<;>rfl
     go_simp
     refine tkR 3 rfl rfl (by kernel_rfl) (fun _ _ _ h=>h) (fun _=>rfl) (v:=?_) (fun w' hb=>?_) ?_
     rotate_left
     ·obtain⟨q0,⟨qa0,qa1,qa2,qa3,qa4,qa5,qa6,qa7⟩,qb0,qb1,qb2,qb3,qb4,qb5,qb6,qb7⟩:=F w' hb
      go_simp<;>rfl
     go_simp
     refine tkP 4 rfl rfl (by kernel_rfl) (fun _ _ _ h=>h) (fun _=>rfl) (v:=?_) (fun w'=>?_) ?_
     rotate_left
     ·go_simp<;>rfl
     go_simp
     refine tkP 5 rfl rfl (by kernel_rfl) (fun _ _ _ h=>h) (fun _=>rfl) (v:=?_) (fun w'=>?_) ?_
     rotate_left
     ·go_simp<;>rfl
     go_simp
     refine tkR 6 rfl rfl (by kernel_rfl) (fun _ _ _ h=>h) (fun _=>rfl) (v:=?_) (fun w' hb=>?_) ?_
     rotate_left
     ·obtain⟨q0,⟨qa0,qa1,qa2,qa3,qa4,qa5,qa6,qa7⟩,qb0,qb1,qb2,qb3,qb4,qb5,qb6,qb7⟩:=F w' hb
      go_simp<;>rfl
     go_simp
     refine tkP 7 rfl rfl (by kernel_rfl) (fun _ _ _ h=>h) (fun _=>rfl) (v:=?_) (fun w'=>?_) ?_
     rotate_left
     ·go_simp<;>rfl
     go_simp
     refine tkP 8 rfl rfl (by kernel_rfl) (fun _ _ _ h=>h) (fun _=>rfl) (v:=?_) (fun w'=>?_) ?_
     rotate_left
     ·go_simp<;>rfl
     go_simp
     refine tkP 9 rfl rfl (by kernel_rfl) (fun _ _ _ h=>h) (fun _=>rfl) (v:=?_) (fun w'=>?_) ?_
     rotate_left
     ·go_simp<;>rfl
     go_simp
     refine tkR 10 rfl rfl (by kernel_rfl) (fun _ _ _ h=>h) (fun _=>rfl) (v:=?_) (fun w' hb=>?_) ?_
     rotate_left
     ·obtain⟨q0,⟨qa0,qa1,qa2,qa3,qa4,qa5,qa6,qa7⟩,qb0,qb1,qb2,qb3,qb4,qb5,qb6,qb7⟩:=F w' hb
      go_simp<;>rfl
     go_simp
     refine tkP 11 rfl rfl (by kernel_rfl) (fun _ _ _ h=>h) (fun _=>rfl) (v:=?_) (fun w'=>?_) ?_
     rotate_left
     ·go_simp<;>rfl
     go_simp
     refine tkP 12 rfl rfl (by kernel_rfl) (fun _ _ _ h=>h) (fun _=>rfl) (v:=?_) (fun w'=>?_) ?_
     rotate_left
     ·go_simp<;>rfl
     go_simp
     refine tkR 13 rfl rfl (by kernel_rfl) (fun _ _ _ h=>h) (fun _=>rfl) (v:=?_) (fun w' hb=>?_) ?_
     rotate_left
     ·obtain⟨q0,⟨qa0,qa1,qa2,qa3,qa4,qa5,qa6,qa7⟩,qb0,qb1,qb2,qb3,qb4,qb5,qb6,qb7⟩:=F w' hb
      go_simp<;>rfl
     go_simp
     refine tkP 14 rfl rfl (by kernel_rfl) (fun _ _ _ h=>h) (fun _=>rfl) (v:=?_) (fun w'=>?_) ?_
     rotate_left
     ·go_simp<;>rfl
     go_simp
     clear F
     refine tp2 15 19 rfl rfl rfl rfl (by kernel_rfl) (fun K' hK'=>?cA) (fun K' hK'=>?cB)
     case' cA=>
      go_simp
      refine⟨trivial,hdd _,(callsIn_wide.2 ((RefMul (h0:=hp) (h:=hp) (p:=p) iA iB).run _ s.m.has (hg.trans s.sub))).mono ?_⟩
      intro e W1 hP;obtain⟨u,h1,rfl,t1,t2,t3,t4,r⟩:=post_ret hP;clear hP
      replace s:=s.call t1 t2 t3 t4
      obtain⟨p1,p2,p3,p4,p5,p6,p7,p8,p9,p10,p11,p12,p13,p14,p15,p16,e,rfl,r⟩:=r.sa
      refine hK' _ _ ⟨.inr (.inr t1),?_⟩
      clear hK' K'
      go_simp
      refine tkP 16 rfl rfl (by kernel_rfl) (fun _ _ _ h=>h) (fun _=>rfl) (v:=?_) (fun w'=>?_) ?_
      rotate_left
      ·go_simp<;>rfl
      go_simp
      refine tkP 17 rfl rfl (by kernel_rfl) (fun _ _ _ h=>h) (fun _=>rfl) (v:=?_) (fun w'=>?_) ?_
      rotate_left
      ·go_simp<;>rfl
      go_simp
      refine tkP 18 rfl rfl (by kernel_rfl) (fun _ _ _ h=>h) (fun _=>rfl) (v:=?_) (fun w'=>?_) ?_
      rotate_left
      ·go_simp<;>rfl
      go_simp
      refine tpOne 19 rfl rfl (by kernel_rfl) fun K' hK'=>?_
      obtain⟨B,hB⟩:∃B,W1.heap.size=B:=⟨_,rfl⟩
      refine inAlloc (z:=[.bool false,.slice none 0 0,.slice none 0 0,.bool false,.slice none 0 0,.slice none 0 0,.bool false,.bool false].toArray) rfl (by go_simp<;>rfl) ?_
      refine hK' _ _ ⟨.inr (.inr ((Below.refl _ _).alloc (η _) _)),?_⟩
      clear hK' K'
      have s':=s.alloc (by omega) [.bool false,.slice none 0 0,.slice none 0 0,.bool false,.slice none 0 0,.slice none 0 0,.bool false,.bool false] 41
      clear s;have s:=s';clear s'
      rw[hB] at s ⊢
      go_simp
      clear hB
      refine tpOne 20 rfl rfl (by kernel_rfl) fun K' hK'=>?_
      obtain⟨T,hT⟩:=s.at_
      refine wpIn_store_box (M:=mach) rfl B 0 [.bool p1,.slice p2 p3 p4,.slice p5 p6 p7,.bool p8,.slice p9 p10 p11,.slice p12 p13 p14,.bool p15,.bool p16] _ rfl (by go_simp<;>rfl) (by go_simp<;>rfl) htk rfl rfl hT (by simp) ?_
      intro W3 hW3 hg3
      have s':=s.fill (vs:=[.bool p1,.slice p2 p3 p4,.slice p5 p6 p7,.bool p8,.slice p9 p10 p11,.slice p12 p13 p14,.bool p15,.bool p16]) rfl rfl hW3 hg3
      clear s;have s:=s';clear s'
      refine hK' _ _ ⟨.inl rfl,?_⟩
      clear hK' K' hT hW3 hg3
      go_simp
      refine tkP 21 rfl rfl (by kernel_rfl) (fun _ _ _ h=>h) (fun _=>rfl) (v:=?_) (fun w'=>?_) ?_
      rotate_left
      ·go_simp<;>rfl
      go_simp
      refine doneB (by kernel_rfl) ?_ 0
     case' cB=>
      obtain⟨B,hB⟩:∃B,wr.drew.heap.size=B:=⟨_,rfl⟩
      refine inAlloc (z:=[.bool false,.slice none 0 0,.slice none 0 0,.bool false,.slice none 0 0,.slice none 0 0,.bool false,.bool false].toArray) rfl (by go_simp<;>rfl) ?_
      refine hK' _ _ ⟨.inr (.inr ((Below.refl _ _).alloc (η _) _)),?_⟩
      clear hK' K'
      have s':=s.alloc (by omega) [.bool false,.slice none 0 0,.slice none 0 0,.bool false,.slice none 0 0,.slice none 0 0,.bool false,.bool false] 41
      clear s;have s:=s';clear s'
      rw[hB] at s ⊢
      go_simp
      clear hB
      refine tpOne 15 rfl rfl (by kernel_rfl) fun K' hK'=>?_
      go_simp
      refine⟨trivial,hdd _,(callsIn_wide.2 ((RefMul (h0:=hp) (h:=hp) (p:=p) iA iB).run _ s.m.has (hg.trans s.sub))).mono ?_⟩
      intro e W1 hP;obtain⟨u,h1,rfl,t1,t2,t3,t4,r⟩:=post_ret hP;clear hP
      replace s:=s.call t1 t2 t3 t4
      obtain⟨p1,p2,p3,p4,p5,p6,p7,p8,p9,p10,p11,p12,p13,p14,p15,p16,e,rfl,r⟩:=r.sa
      refine hK' _ _ ⟨.inr (.inr t1),?_⟩
      clear hK' K'
      go_simp
      refine tkP 16 rfl rfl (by kernel_rfl) (fun _ _ _ h=>h) (fun _=>rfl) (v:=?_) (fun w'=>?_) ?_
      rotate_left
      ·go_simp<;>rfl
      go_simp
      refine tkP 17 rfl rfl (by kernel_rfl) (fun _ _ _ h=>h) (fun _=>rfl) (v:=?_) (fun w'=>?_) ?_
      rotate_left
      ·go_simp<;>rfl
      go_simp
      refine tkP 18 rfl rfl (by kernel_rfl) (fun _ _ _ h=>h) (fun _=>rfl) (v:=?_) (fun w'=>?_) ?_
      rotate_left
      ·go_simp<;>rfl
      go_simp
      refine tpOne 20 rfl rfl (by kernel_rfl) fun K' hK'=>?_
      obtain⟨T,hT⟩:=s.at_
      refine wpIn_store_box (M:=mach) rfl B 0 [.bool p1,.slice p2 p3 p4,.slice p5 p6 p7,.bool p8,.slice p9 p10 p11,.slice p12 p13 p14,.bool p15,.bool p16] _ rfl (by go_simp<;>rfl) (by go_simp<;>rfl) htk rfl rfl hT (by simp) ?_
      intro W3 hW3 hg3
      have s':=s.fill (vs:=[.bool p1,.slice p2 p3 p4,.slice p5 p6 p7,.bool p8,.slice p9 p10 p11,.slice p12 p13 p14,.bool p15,.bool p16]) rfl rfl hW3 hg3
      clear s;have s:=s';clear s'
      refine hK' _ _ ⟨.inl rfl,?_⟩
      clear hK' K' hT hW3 hg3
      go_simp
      refine tkP 21 rfl rfl (by kernel_rfl) (fun _ _ _ h=>h) (fun _=>rfl) (v:=?_) (fun w'=>?_) ?_
      rotate_left
      ·go_simp<;>rfl
      go_simp
      refine doneB (by kernel_rfl) ?_ 0
     all_goals
      clear ou dA dB iA iB
      replace r:Ir h1 _ (mulE p (M k i) (M k j)):=r
      gi_wp2
      ·go_ret
       exact .inr ⟨rfl,not_elB (by omega) (by omega) (by omega) (elE_mul (r.bad (by simpa using (show(e != 0)=true by assumption)))),h1,_,s.toElS⟩
      ·skip
       obtain rfl:e=0:=by simpa using (show(e != 0)=false by assumption)
       obtain⟨x,ex,cx⟩:=r.good mulE_nz
       replace s:=s.drew
       obtain⟨bC1,aC1,mC1,kC1,aC2,mC2,kC2,bC2,aC3,mC3,kC3,aC4,mC4,kC4,eC1,eC2,dC,iC⟩:=s.m.entry (i:=k) (j:=k) (by omega) (by omega)
       rw[stM_row] at iC
       have iX:=cx.iv (fin2_le ex)
       have ou:=s.m.outer k hk
       have F:=fun w' (hb:Below W3.drew.heap.size W3.drew w')=>And.intro (cellB hb ou) (And.intro (c8 fun t u hu=>cellB hb (dC t u hu)) (let q:=s.k8;And.intro (cellB hb q.1) (And.intro (cellB hb q.2.1) (And.intro (cellB hb q.2.2.1) (And.intro (cellB hb q.2.2.2.1) (And.intro (cellB hb q.2.2.2.2.1) (And.intro (cellB hb q.2.2.2.2.2.1) (And.intro (cellB hb q.2.2.2.2.2.2.1) (cellB hb q.2.2.2.2.2.2.2)))))))))
       refine wpIn_region_b hmix ?_
       refine tkR 0 rfl rfl (by kernel_rfl) (fun _ _ _ h=>h) (fun _=>rfl) (v:=?_) (fun w' hb=>?_) ?_
       rotate_left
       ·obtain⟨q0,⟨qa0,qa1,qa2,qa3,qa4,qa5,qa6,qa7⟩,qx0,qx1,qx2,qx3,qx4,qx5,qx6,qx7⟩:=F w' hb
        go_simp<;>rfl
       go_simp
       refine tkP 1 rfl rfl (by kernel_rfl) (fun _ _ _ h=>h) (fun _=>rfl) (v:=?_) (fun w'=>?_) ?_
       rotate_left
       ·go_simp<;>rfl
       go_simp
       refine tkP 2 rfl rfl (by kernel_rfl) (fun _ _ _ h=>h) (fun _=>rfl) (v:=?_) (fun w'=>?_) ?_
       rotate_left
       ·go_simp<;>rfl
       go_simp
       refine tkP 3 rfl rfl (by kernel_rfl) (fun _ _ _ h=>h) (fun _=>rfl) (v:=?_) (fun w'=>?_) ?_
       rotate_left
       ·go_simp<;>rfl
       go_simp
       refine tkR 4 rfl rfl (by kernel_rfl) (fun _ _ _ h=>h) (fun _=>rfl) (v:=?_) (fun w' hb=>?_) ?_
       rotate_left
       ·obtain⟨q0,⟨qa0,qa1,qa2,qa3,qa4,qa5,qa6,qa7⟩,qx0,qx1,qx2,qx3,qx4,qx5,qx6,qx7⟩:=F w' hb
        go_simp<;>rfl
       go_simp
       refine tkP 5 rfl rfl (by kernel_rfl) (fun _ _ _ h=>h) (fun _=>rfl) (v:=?_) (fun w'=>?_) ?_
       rotate_left
       ·go_simp<;>rfl
       go_simp
       refine tkP 6 rfl rfl (by kernel_rfl) (fun _ _ _ h=>h) (fun _=>rfl) (v:=?_) (fun w'=>?_) ?_
       rotate_left
       ·go_simp<;>rfl
       go_simp
       refine tkR 7 rfl rfl (by kernel_rfl) (fun _ _ _ h=>h) (fun _=>rfl) (v:=?_) (fun w' hb=>?_) ?_
       rotate_left
       ·obtain⟨q0,⟨qa0,qa1,qa2,qa3,qa4,qa5,qa6,qa7⟩,qx0,qx1,qx2,qx3,qx4,qx5,qx6,qx7⟩:=F w' hb
        go_simp<;>rfl
       go_simp
       refine tkP 8 rfl rfl (by kernel_rfl) (fun _ _ _ h=>h) (fun _=>rfl) (v:=?_) (fun w'=>?_) ?_
       rotate_left
       ·go_simp<;>rfl
       go_simp
       clear F ou dC
       refine tpOne 9 rfl rfl (by kernel_rfl) fun K' hK'=>?_
       replace iX:=iX
       go_simp
       refine⟨trivial,hdd _,(callsIn_wide.2 ((RefDiv (h0:=h1) (h:=h1) (p:=p) iX iC).run _ s.m.has (hg.trans s.sub))).mono ?_⟩
       intro e W1 hP;obtain⟨u,h1,rfl,t1,t2,t3,t4,r⟩:=post_ret hP;clear hP
       replace s:=s.call t1 t2 t3 t4
       obtain⟨p1,p2,p3,p4,p5,p6,p7,p8,p9,p10,p11,p12,p13,p14,p15,p16,e,rfl,r⟩:=r.sa
       refine hK' _ _ ⟨.inr (.inr t1),?_⟩
       clear hK' K'
       go_simp
       refine tkP 10 rfl rfl (by kernel_rfl) (fun _ _ _ h=>h) (fun _=>rfl) (v:=?_) (fun w'=>?_) ?_
       rotate_left
       ·go_simp<;>rfl
       go_simp
       refine tkP 11 rfl rfl (by kernel_rfl) (fun _ _ _ h=>h) (fun _=>rfl) (v:=?_) (fun w'=>?_) ?_
       rotate_left
       ·go_simp<;>rfl
       go_simp
       refine tkP 12 rfl rfl (by kernel_rfl) (fun _ _ _ h=>h) (fun _=>rfl) (v:=?_) (fun w'=>?_) ?_
       rotate_left
       ·go_simp<;>rfl
       go_simp
       refine tpOne 13 rfl rfl (by kernel_rfl) fun K' hK'=>?_
       obtain⟨T,hT⟩:=s.at_
       refine wpIn_store_box (M:=mach) rfl B 0 [.bool p1,.slice p2 p3 p4,.slice p5 p6 p7,.bool p8,.slice p9 p10 p11,.slice p12 p13 p14,.bool p15,.bool p16] _ rfl (by go_simp<;>rfl) (by go_simp<;>rfl) htk rfl rfl hT (by simp) ?_
       intro W3 hW3 hg3
       have s':=s.fill (vs:=[.bool p1,.slice p2 p3 p4,.slice p5 p6 p7,.bool p8,.slice p9 p10 p11,.slice p12 p13 p14,.bool p15,.bool p16]) rfl rfl hW3 hg3
       clear s;have s:=s';clear s'
       refine hK' _ _ ⟨.inl rfl,?_⟩
       clear hK' K' hT hW3 hg3
       go_simp
       refine tkP 14 rfl rfl (by kernel_rfl) (fun _ _ _ h=>h) (fun _=>rfl) (v:=?_) (fun w'=>?_) ?_
       rotate_left
       ·go_simp<;>rfl
       go_simp
       refine doneB (by kernel_rfl) ?_ 0
       replace r:Ir h1 _ (divE p x.ri (M k k)):=r
       gi_wp2
       ·go_ret
        exact .inr ⟨rfl,not_elB (by omega) (by omega) (by omega) (elE_div ex (r.bad (by simpa using (show(e != 0)=true by assumption)))),h1,_,s.toElS⟩
       ·skip
        obtain rfl:e=0:=by simpa using (show(e != 0)=false by assumption)
        obtain⟨y,ey,cy⟩:=r.good divE_nz
        replace s:=s.drew
        obtain⟨bD1,aD1,mD1,kD1,aD2,mD2,kD2,bD2,aD3,mD3,kD3,aD4,mD4,kD4,eD1,eD2,dD,iD⟩:=s.m.entry (i:=i) (j:=j) (by omega) (by omega)
        rw[stM_at] at iD
        have iY:=cy.iv (fin2_le ey)
        have ou:=s.m.outer i (by omega)
        have F:=fun w' (hb:Below W3.drew.heap.size W3.drew w')=>And.intro (cellB hb ou) (And.intro (c8 fun t u hu=>cellB hb (dD t u hu)) (let q:=s.k8;And.intro (cellB hb q.1) (And.intro (cellB hb q.2.1) (And.intro (cellB hb q.2.2.1) (And.intro (cellB hb q.2.2.2.1) (And.intro (cellB hb q.2.2.2.2.1) (And.intro (cellB hb q.2.2.2.2.2.1) (And.intro (cellB hb q.2.2.2.2.2.2.1) (cellB hb q.2.2.2.2.2.2.2)))))))))
        refine wpIn_region_b hmix ?_
        refine tkP 0 rfl rfl (by kernel_rfl) (fun _ _ _ h=>h) (fun _=>rfl) (v:=?_) (fun w'=>?_) ?_
        rotate_left
        ·go_simp<;>rfl
        go_simp
        refine tkP 1 rfl rfl (by kernel_rfl) (fun _ _ _ h=>h) (fun _=>rfl) (v:=?_) (fun w'=>?_) ?_
        rotate_left
        ·go_simp<;>rfl
        go_simp
        refine tkP 2 rfl rfl (by kernel_rfl) (fun _ _ _ h=>h) (fun _=>rfl) (v:=?_) (fun w'=>?_) ?_
        rotate_left
        ·go_simp<;>rfl
        go_simp
        refine tkR 3 rfl rfl (by kernel_rfl) (fun _ _ _ h=>h) (fun _=>rfl) (v:=?_) (fun w' hb=>?_) ?_
        rotate_left
        ·obtain⟨q0,⟨qa0,qa1,qa2,qa3,qa4,qa5,qa6,qa7⟩,qx0,qx1,qx2,qx3,qx4,qx5,qx6,qx7⟩:=F w' hb
         go_simp<;>rfl
        go_simp
        refine tkP 4 rfl rfl (by kernel_rfl) (fun _ _ _ h=>h) (fun _=>rfl) (v:=?_) (fun w'=>?_) ?_
        rotate_left
        ·go_simp<;>rfl
        go_simp
        refine tkP 5 rfl rfl (by kernel_rfl) (fun _ _ _ h=>h) (fun _=>rfl) (v:=?_) (fun w'=>?_) ?_
        rotate_left
        ·go_simp<;>rfl
        go_simp
        refine tkR 6 rfl rfl (by kernel_rfl) (fun _ _ _ h=>h) (fun _=>rfl) (v:=?_) (fun w' hb=>?_) ?_
        rotate_left
        ·obtain⟨q0,⟨qa0,qa1,qa2,qa3,qa4,qa5,qa6,qa7⟩,qx0,qx1,qx2,qx3,qx4,qx5,qx6,qx7⟩:=F w' hb
         go_simp<;>rfl
        go_simp
        refine tkR 7 rfl rfl (by kernel_rfl) (fun _ _ _ h=>h) (fun _=>rfl) (v:=?_) (fun w' hb=>?_) ?_
        rotate_left
        ·obtain⟨q0,⟨qa0,qa1,qa2,qa3,qa4,qa5,qa6,qa7⟩,qx0,qx1,qx2,qx3,qx4,qx5,qx6,qx7⟩:=F w' hb
         go_simp<;>rfl
        go_simp
        refine tkP 8 rfl rfl (by kernel_rfl) (fun _ _ _ h=>h) (fun _=>rfl) (v:=?_) (fun w'=>?_) ?_
        rotate_left
        ·go_simp<;>rfl
        go_simp
        clear F ou dD
        refine tpOne 9 rfl rfl (by kernel_rfl) fun K' hK'=>?_
        go_simp
        refine⟨trivial,hdd _,(callsIn_wide.2 ((RefSub (h0:=h1) (h:=h1) (p:=p) iD iY).run _ s.m.has (hg.trans s.sub))).mono ?_⟩
        intro e W1 hP;obtain⟨u,h1,rfl,t1,t2,t3,t4,r⟩:=post_ret hP;clear hP
        replace s:=s.call t1 t2 t3 t4
        obtain⟨p1,p2,p3,p4,p5,p6,p7,p8,p9,p10,p11,p12,p13,p14,p15,p16,e,rfl,r⟩:=r.sa
        refine hK' _ _ ⟨.inr (.inr t1),?_⟩
        clear hK' K'
        go_simp
        refine tkP 10 rfl rfl (by kernel_rfl) (fun _ _ _ h=>h) (fun _=>rfl) (v:=?_) (fun w'=>?_) ?_
        rotate_left
        ·go_simp<;>rfl
        go_simp
        refine tkP 11 rfl rfl (by kernel_rfl) (fun _ _ _ h=>h) (fun _=>rfl) (v:=?_) (fun w'=>?_) ?_
        rotate_left
        ·go_simp<;>rfl
        go_simp
        refine tkP 12 rfl rfl (by kernel_rfl) (fun _ _ _ h=>h) (fun _=>rfl) (v:=?_) (fun w'=>?_) ?_
        rotate_left
        ·go_simp<;>rfl
        go_simp
        refine tpOne 13 rfl rfl (by kernel_rfl) fun K' hK'=>?_
        obtain⟨T,hT⟩:=s.at_
        refine wpIn_store_box (M:=mach) rfl B 0 [.bool p1,.slice p2 p3 p4,.slice p5 p6 p7,.bool p8,.slice p9 p10 p11,.slice p12 p13 p14,.bool p15,.bool p16] _ rfl (by go_simp<;>rfl) (by go_simp<;>rfl) htk rfl rfl hT (by simp) ?_
        intro W3 hW3 hg3
        have s':=s.fill (vs:=[.bool p1,.slice p2 p3 p4,.slice p5 p6 p7,.bool p8,.slice p9 p10 p11,.slice p12 p13 p14,.bool p15,.bool p16]) rfl rfl hW3 hg3
        clear s;have s:=s';clear s'
        refine hK' _ _ ⟨.inl rfl,?_⟩
        clear hK' K' hT hW3 hg3
        go_simp
        refine tkP 14 rfl rfl (by kernel_rfl) (fun _ _ _ h=>h) (fun _=>rfl) (v:=?_) (fun w'=>?_) ?_
        rotate_left
        ·go_simp<;>rfl
        go_simp
        refine doneB (by kernel_rfl) ?_ 0
        replace r:Ir h1 _ (subE p (M i j) y.ri):=r
        rw[←elE_ok (kk:=M k k) (ij:=M i j) ex ey] at r
        gi_wp2
        ·go_ret
         exact .inr ⟨rfl,not_elB (by omega) (by omega) (by omega) (r.bad (by simpa using (show(e != 0)=true by assumption))),h1,_,s.toElS⟩
        ·skip
         have hez:Enz (elE p (M k k) (M k i) (M k j) (M i j)):=by rw[elE_ok ex ey];exact subE_nz
         obtain rfl:e=0:=by simpa using (show(e != 0)=false by assumption)
         obtain⟨z,ez,cz⟩:=r.good hez
         replace s:=s.drew
         have iZ:=cz.iv (by rw[elE_ok ex ey] at ez;exact fin2_le ez)
         have ou:=s.m.outer i (by omega)
         have F:=fun w' (hb:Below W3.drew.heap.size W3.drew w')=>And.intro (cellB hb ou) (let q:=s.k8;And.intro (cellB hb q.1) (And.intro (cellB hb q.2.1) (And.intro (cellB hb q.2.2.1) (And.intro (cellB hb q.2.2.2.1) (And.intro (cellB hb q.2.2.2.2.1) (And.intro (cellB hb q.2.2.2.2.2.1) (And.intro (cellB hb q.2.2.2.2.2.2.1) (cellB hb q.2.2.2.2.2.2.2))))))))
         refine wpIn_region_b hmix ?_
         refine tkP 0 rfl rfl (by kernel_rfl) (fun _ _ _ h=>h) (fun _=>rfl) (v:=?_) (fun w'=>?_) ?_
         rotate_left
         ·go_simp<;>rfl
         go_simp
         refine tkP 1 rfl rfl (by kernel_rfl) (fun _ _ _ h=>h) (fun _=>rfl) (v:=?_) (fun w'=>?_) ?_
         rotate_left
         ·go_simp<;>rfl
         go_simp
         refine tkP 2 rfl rfl (by kernel_rfl) (fun _ _ _ h=>h) (fun _=>rfl) (v:=?_) (fun w'=>?_) ?_
         rotate_left
         ·go_simp<;>rfl
         go_simp
         refine tkR 3 rfl rfl (by kernel_rfl) (fun _ _ _ h=>h) (fun _=>rfl) (v:=?_) (fun w' hb=>?_) ?_
         rotate_left
         ·obtain⟨q0,qx0,qx1,qx2,qx3,qx4,qx5,qx6,qx7⟩:=F w' hb
          go_simp<;>rfl
         go_simp
         refine tkP 4 rfl rfl (by kernel_rfl) (fun _ _ _ h=>h) (fun _=>rfl) (v:=?_) (fun w'=>?_) ?_
         rotate_left
         ·go_simp<;>rfl
         go_simp
         refine tkR 5 rfl rfl (by kernel_rfl) (fun _ _ _ h=>h) (fun _=>rfl) (v:=?_) (fun w' hb=>?_) ?_
         rotate_left
         ·obtain⟨q0,qx0,qx1,qx2,qx3,qx4,qx5,qx6,qx7⟩:=F w' hb
          go_simp<;>rfl
         go_simp
         refine tkP 6 rfl rfl (by kernel_rfl) (fun _ _ _ h=>h) (fun _=>rfl) (v:=?_) (fun w'=>?_) ?_
         rotate_left
         ·go_simp<;>rfl
         go_simp
         clear F ou
         refine tpOne 7 rfl rfl (by kernel_rfl) fun K' hK'=>?_
         obtain⟨cs,T,hT,hl,_⟩:=s.m.row i (by omega)
         refine wpIn_store_box (M:=mach) rfl (g i) (j*8) [.bool p1,.slice p2 p3 p4,.slice p5 p6 p7,.bool p8,.slice p9 p10 p11,.slice p12 p13 p14,.bool p15,.bool p16] _ rfl (by go_simp<;>rfl) (by go_simp<;>rfl) htk rfl rfl hT (by simp;omega) ?_
         intro W4 hW4 hg4
         have s4:=s.toElS.set (by omega) (by omega) hT (vs:=[.bool p1,.slice p2 p3 p4,.slice p5 p6 p7,.bool p8,.slice p9 p10 p11,.slice p12 p13 p14,.bool p15,.bool p16]) rfl iZ hW4 hg4
         rw[stM_next (by omega) (by omega) ez] at s4
         refine hK' _ _ ⟨.inl rfl,?_⟩
         clear hK' K' hT hW4 hg4
         go_simp
         refine doneB (by kernel_rfl) ?_ 0
         gi_wp2
         go_roundw
         case rel=>exact⟨_,j+1,by omega,by omega,by omega,rfl,stB_next hst (by rw[ez];rfl),h1,s4⟩
         case measure=>simp[RowKit.intOf];omega
    ·gi_wp2
     obtain rfl:j=n:=by omega
     go_roundw
     case rel=>exact⟨_,i+1,by omega,by omega,by omega,rfl,fun a b h1 h2 h3 h4=>hst a b h1 h2 h3 (by omega),hp,s.kx,s.sub,s.new,s.m.congr fun a b hb=>stM_line hb⟩
     case measure=>simp[RowKit.intOf];omega
  ·gi_wp2
   obtain rfl:i=n:=by omega
   go_ret
   exact .inl ⟨rfl,fun a b h1 h2 h3=>hst0 a b h1 h2 h3 (.inl (by omega)),hp0,hI.kx,hI.sub,hI.new,hI.m.congr fun a b hb=>stM_all hb⟩
open Go.Proofs
theorem zr {h0 h:PH} [Le h0 h] {v:Value} {x:NS} (hv:Rr h0 v x) (hx:x.ok):Spec mach 36 #[v] h (fun r _=>r=.int .i64 (sgN x)) NP:=by
 obtain⟨_,_,_,_,_,_,_,_,_,_,_,_,_,_,rfl,t1,t2⟩:=hv.sa
 cases x with
 | e=>
  dsimp only[NS.void]
  have es:sgN .e=4:=rfl
  rw[es]
  refine Spec.enter (args:=[_]) (n:=50) Tryz.func36 rfl (by kernel_rfl) rfl (by simp) [.tmp 2] rfl (fun C _=>?_)
  repeat (first |(refine wo rfl (fun k hk=>?_);simp(disch:=omega) only[go_sem,ξ,ζ];apply hk;clear hk k) |refine wkt rfl ?_ |refine wk0 ?_ |refine rg rfl rfl (fun K hK=>?_) |((first |refine ae ?_ |refine ac ?_);simp(disch:=decide) only[qs,qb,if_true,if_false,reduceIte]) |refine ah rfl (fun K hK=>?_) |refine ct rfl ?_ |((try simp(disch:=omega) only[go_sem,ξ,ζ]);(first |apply hK |(clear hK;apply hK) |(clear hK;clear hK;apply hK));clear hK;(try clear K);(try dsimp only[ag,qs,qb])))
  refine ai ?_;simp(disch:=omega) only[go_sem,ξ,ζ]
 | i a b =>
  have k1:=fun {h} [Le h0 h]=>bS (h:=h) t1
  have k2:=fun {h} [Le h0 h]=>bS (h:=h) t2
  rw[sgN_i]
  cases a with
  | none=>
   cases b with
   | none=>
    have s1:(NS.i none none).slo= -1:=rfl
    have s2:(NS.i none none).shi=1:=rfl
    rw[s1,s2]
    dsimp only[NS.void,NS.loN,NS.hiN,NS.lo0,NS.hi0,Option.isNone,Option.getD] at*
    refine Spec.enter (args:=[_]) (n:=50) Tryz.func36 rfl (by kernel_rfl) rfl (by simp) [.tmp 2] rfl (fun C _=>?_)
    repeat (first |(refine rg rfl rfl (fun K hK=>?_);(repeat (first |(refine wo rfl (fun k hk=>?_);simp(disch:=omega) only[go_sem,ξ,ζ];apply hk;clear hk k) |refine wkt rfl ?_));(try refine wk0 ?_);apply hK;clear hK K;(try dsimp only[ag,qs,qb])) |((first |refine ae ?_ |refine ac ?_);simp(disch:=decide) only[qs,qb,if_true,if_false,reduceIte]) |refine ah rfl (fun K hK=>?_) |refine ct rfl ?_ |((first |refine hK _ _ ?_ |(clear hK;refine hK _ _ ?_) |(clear hK;clear hK;refine hK _ _ ?_));clear hK;(try clear K)))
    repeat (first |(refine rg rfl rfl (fun K hK=>?_);(repeat (first |(refine wo rfl (fun k hk=>?_);simp(disch:=omega) only[go_sem,ξ,ζ];apply hk;clear hk k) |refine wkt rfl ?_));(try refine wk0 ?_);refine cN rfl rfl rfl rfl (by exact k1) ?_;rintro v1 h1 s1 rfl;(repeat (first |(refine wo rfl (fun k hk=>?_);simp(disch:=omega) only[go_sem,ξ,ζ];apply hk;clear hk k) |refine wkt rfl ?_));(try refine wk0 ?_);(try (simp(disch:=omega) only[go_sem,ξ,ζ]));apply hK;clear hK;(try clear K);(try dsimp only[ag,qs]);repeat (first |(refine rg rfl rfl (fun K hK=>?_);(repeat (first |(refine wo rfl (fun k hk=>?_);simp(disch:=omega) only[go_sem,ξ,ζ];apply hk;clear hk k) |refine wkt rfl ?_));(try refine wk0 ?_);apply hK;clear hK K;(try dsimp only[ag,qs,qb])) |((first |refine ae ?_ |refine ac ?_);simp(disch:=decide) only[qs,qb,if_true,if_false,reduceIte]) |refine ah rfl (fun K hK=>?_) |refine ct rfl ?_ |((first |refine hK _ _ ?_ |(clear hK;refine hK _ _ ?_) |(clear hK;clear hK;refine hK _ _ ?_));clear hK;(try clear K)))) |(refine rg rfl rfl (fun K hK=>?_);(repeat (first |(refine wo rfl (fun k hk=>?_);simp(disch:=omega) only[go_sem,ξ,ζ];apply hk;clear hk k) |refine wkt rfl ?_));(try refine wk0 ?_);refine cN rfl rfl rfl rfl (by exact k2) ?_;rintro v2 h2 s2 rfl;(repeat (first |(refine wo rfl (fun k hk=>?_);simp(disch:=omega) only[go_sem,ξ,ζ];apply hk;clear hk k) |refine wkt rfl ?_));(try refine wk0 ?_);(try (simp(disch:=omega) only[go_sem,ξ,ζ]));apply hK;clear hK;(try clear K);(try dsimp only[ag,qs]);repeat (first |(refine rg rfl rfl (fun K hK=>?_);(repeat (first |(refine wo rfl (fun k hk=>?_);simp(disch:=omega) only[go_sem,ξ,ζ];apply hk;clear hk k) |refine wkt rfl ?_));(try refine wk0 ?_);apply hK;clear hK K;(try dsimp only[ag,qs,qb])) |((first |refine ae ?_ |refine ac ?_);simp(disch:=decide) only[qs,qb,if_true,if_false,reduceIte]) |refine ah rfl (fun K hK=>?_) |refine ct rfl ?_ |((first |refine hK _ _ ?_ |(clear hK;refine hK _ _ ?_) |(clear hK;clear hK;refine hK _ _ ?_));clear hK;(try clear K)))))
    refine ai ?_;simp(disch:=omega) only[go_sem,ξ,ζ]
    all_goals first |rfl |(congr 1;(repeat' split)<;>omega)
   | some b=>
    have s1:(NS.i none (some b)).slo= -1:=rfl
    have s2:(NS.i none (some b)).shi=sgn3 b:=rfl
    rw[s1,s2]
    dsimp only[NS.void,NS.loN,NS.hiN,NS.lo0,NS.hi0,Option.isNone,Option.getD] at*
    have hm:=qY (q:=b)
    generalize sgn3 b=m2 at*
    rcases hm with rfl |rfl |rfl<;>
    ·refine Spec.enter (args:=[_]) (n:=50) Tryz.func36 rfl (by kernel_rfl) rfl (by simp) [.tmp 2] rfl (fun C _=>?_)
     repeat (first |(refine rg rfl rfl (fun K hK=>?_);(repeat (first |(refine wo rfl (fun k hk=>?_);simp(disch:=omega) only[go_sem,ξ,ζ];apply hk;clear hk k) |refine wkt rfl ?_));(try refine wk0 ?_);apply hK;clear hK K;(try dsimp only[ag,qs,qb])) |((first |refine ae ?_ |refine ac ?_);simp(disch:=decide) only[qs,qb,if_true,if_false,reduceIte]) |refine ah rfl (fun K hK=>?_) |refine ct rfl ?_ |((first |refine hK _ _ ?_ |(clear hK;refine hK _ _ ?_) |(clear hK;clear hK;refine hK _ _ ?_));clear hK;(try clear K)))
     repeat (first |(refine rg rfl rfl (fun K hK=>?_);(repeat (first |(refine wo rfl (fun k hk=>?_);simp(disch:=omega) only[go_sem,ξ,ζ];apply hk;clear hk k) |refine wkt rfl ?_));(try refine wk0 ?_);refine cN rfl rfl rfl rfl (by exact k1) ?_;rintro v1 h1 s1 rfl;(repeat (first |(refine wo rfl (fun k hk=>?_);simp(disch:=omega) only[go_sem,ξ,ζ];apply hk;clear hk k) |refine wkt rfl ?_));(try refine wk0 ?_);(try (simp(disch:=omega) only[go_sem,ξ,ζ]));apply hK;clear hK;(try clear K);(try dsimp only[ag,qs]);repeat (first |(refine rg rfl rfl (fun K hK=>?_);(repeat (first |(refine wo rfl (fun k hk=>?_);simp(disch:=omega) only[go_sem,ξ,ζ];apply hk;clear hk k) |refine wkt rfl ?_));(try refine wk0 ?_);apply hK;clear hK K;(try dsimp only[ag,qs,qb])) |((first |refine ae ?_ |refine ac ?_);simp(disch:=decide) only[qs,qb,if_true,if_false,reduceIte]) |refine ah rfl (fun K hK=>?_) |refine ct rfl ?_ |((first |refine hK _ _ ?_ |(clear hK;refine hK _ _ ?_) |(clear hK;clear hK;refine hK _ _ ?_));clear hK;(try clear K)))) |(refine rg rfl rfl (fun K hK=>?_);(repeat (first |(refine wo rfl (fun k hk=>?_);simp(disch:=omega) only[go_sem,ξ,ζ];apply hk;clear hk k) |refine wkt rfl ?_));(try refine wk0 ?_);refine cN rfl rfl rfl rfl (by exact k2) ?_;rintro v2 h2 s2 rfl;(repeat (first |(refine wo rfl (fun k hk=>?_);simp(disch:=omega) only[go_sem,ξ,ζ];apply hk;clear hk k) |refine wkt rfl ?_));(try refine wk0 ?_);(try (simp(disch:=omega) only[go_sem,ξ,ζ]));apply hK;clear hK;(try clear K);(try dsimp only[ag,qs]);repeat (first |(refine rg rfl rfl (fun K hK=>?_);(repeat (first |(refine wo rfl (fun k hk=>?_);simp(disch:=omega) only[go_sem,ξ,ζ];apply hk;clear hk k) |refine wkt rfl ?_));(try refine wk0 ?_);apply hK;clear hK K;(try dsimp only[ag,qs,qb])) |((first |refine ae ?_ |refine ac ?_);simp(disch:=decide) only[qs,qb,if_true,if_false,reduceIte]) |refine ah rfl (fun K hK=>?_) |refine ct rfl ?_ |((first |refine hK _ _ ?_ |(clear hK;refine hK _ _ ?_) |(clear hK;clear hK;refine hK _ _ ?_));clear hK;(try clear K)))))
     refine ai ?_;simp(disch:=omega) only[go_sem,ξ,ζ]
     all_goals first |rfl |(congr 1;(repeat' split)<;>omega)
  | some a=>
   cases b with
   | none=>
    have s1:(NS.i (some a) none).slo=sgn3 a:=rfl
    have s2:(NS.i (some a) none).shi=1:=rfl
    rw[s1,s2]
    dsimp only[NS.void,NS.loN,NS.hiN,NS.lo0,NS.hi0,Option.isNone,Option.getD] at*
    have hm:=qY (q:=a)
    generalize sgn3 a=m1 at*
    rcases hm with rfl |rfl |rfl<;>
    ·refine Spec.enter (args:=[_]) (n:=50) Tryz.func36 rfl (by kernel_rfl) rfl (by simp) [.tmp 2] rfl (fun C _=>?_)
     repeat (first |(refine rg rfl rfl (fun K hK=>?_);(repeat (first |(refine wo rfl (fun k hk=>?_);simp(disch:=omega) only[go_sem,ξ,ζ];apply hk;clear hk k) |refine wkt rfl ?_));(try refine wk0 ?_);apply hK;clear hK K;(try dsimp only[ag,qs,qb])) |((first |refine ae ?_ |refine ac ?_);simp(disch:=decide) only[qs,qb,if_true,if_false,reduceIte]) |refine ah rfl (fun K hK=>?_) |refine ct rfl ?_ |((first |refine hK _ _ ?_ |(clear hK;refine hK _ _ ?_) |(clear hK;clear hK;refine hK _ _ ?_));clear hK;(try clear K)))
     repeat (first |(refine rg rfl rfl (fun K hK=>?_);(repeat (first |(refine wo rfl (fun k hk=>?_);simp(disch:=omega) only[go_sem,ξ,ζ];apply hk;clear hk k) |refine wkt rfl ?_));(try refine wk0 ?_);refine cN rfl rfl rfl rfl (by exact k1) ?_;rintro v1 h1 s1 rfl;(repeat (first |(refine wo rfl (fun k hk=>?_);simp(disch:=omega) only[go_sem,ξ,ζ];apply hk;clear hk k) |refine wkt rfl ?_));(try refine wk0 ?_);(try (simp(disch:=omega) only[go_sem,ξ,ζ]));apply hK;clear hK;(try clear K);(try dsimp only[ag,qs]);repeat (first |(refine rg rfl rfl (fun K hK=>?_);(repeat (first |(refine wo rfl (fun k hk=>?_);simp(disch:=omega) only[go_sem,ξ,ζ];apply hk;clear hk k) |refine wkt rfl ?_));(try refine wk0 ?_);apply hK;clear hK K;(try dsimp only[ag,qs,qb])) |((first |refine ae ?_ |refine ac ?_);simp(disch:=decide) only[qs,qb,if_true,if_false,reduceIte]) |refine ah rfl (fun K hK=>?_) |refine ct rfl ?_ |((first |refine hK _ _ ?_ |(clear hK;refine hK _ _ ?_) |(clear hK;clear hK;refine hK _ _ ?_));clear hK;(try clear K)))) |(refine rg rfl rfl (fun K hK=>?_);(repeat (first |(refine wo rfl (fun k hk=>?_);simp(disch:=omega) only[go_sem,ξ,ζ];apply hk;clear hk k) |refine wkt rfl ?_));(try refine wk0 ?_);refine cN rfl rfl rfl rfl (by exact k2) ?_;rintro v2 h2 s2 rfl;(repeat (first |(refine wo rfl (fun k hk=>?_);simp(disch:=omega) only[go_sem,ξ,ζ];apply hk;clear hk k) |refine wkt rfl ?_));(try refine wk0 ?_);(try (simp(disch:=omega) only[go_sem,ξ,ζ]));apply hK;clear hK;(try clear K);(try dsimp only[ag,qs]);repeat (first |(refine rg rfl rfl (fun K hK=>?_);(repeat (first |(refine wo rfl (fun k hk=>?_);simp(disch:=omega) only[go_sem,ξ,ζ];apply hk;clear hk k) |refine wkt rfl ?_));(try refine wk0 ?_);apply hK;clear hK K;(try dsimp only[ag,qs,qb])) |((first |refine ae ?_ |refine ac ?_);simp(disch:=decide) only[qs,qb,if_true,if_false,reduceIte]) |refine ah rfl (fun K hK=>?_) |refine ct rfl ?_ |((first |refine hK _ _ ?_ |(clear hK;refine hK _ _ ?_) |(clear hK;clear hK;refine hK _ _ ?_));clear hK;(try clear K)))))
     refine ai ?_;simp(disch:=omega) only[go_sem,ξ,ζ]
     all_goals first |rfl |(congr 1;(repeat' split)<;>omega)
   | some b=>
    have s1:(NS.i (some a) (some b)).slo=sgn3 a:=rfl
    have s2:(NS.i (some a) (some b)).shi=sgn3 b:=rfl
    rw[s1,s2]
    have ho:sgn3 a≤sgn3 b:=zZ (by simpa[NS.ok,ordO] using hx)
    dsimp only[NS.void,NS.loN,NS.hiN,NS.lo0,NS.hi0,Option.isNone,Option.getD] at*
    have hm1:=qY (q:=a)
    have hm2:=qY (q:=b)
    generalize sgn3 a=m1 at*
    generalize sgn3 b=m2 at*
    have hm:(m1= -1∧m2= -1)∨(m1= -1∧m2=0)∨(m1= -1∧m2=1)∨(m1=0∧m2=0)∨(m1=0∧m2=1)∨(m1=1∧m2=1):=by omega
    clear hm1 hm2 ho
    rcases hm with⟨rfl,rfl⟩ |⟨rfl,rfl⟩ |⟨rfl,rfl⟩ |⟨rfl,rfl⟩ |⟨rfl,rfl⟩ |⟨rfl,rfl⟩<;>
    ·refine Spec.enter (args:=[_]) (n:=50) Tryz.func36 rfl (by kernel_rfl) rfl (by simp) [.tmp 2] rfl (fun C _=>?_)
     repeat (first |(refine rg rfl rfl (fun K hK=>?_);(repeat (first |(refine wo rfl (fun k hk=>?_);simp(disch:=omega) only[go_sem,ξ,ζ];apply hk;clear hk k) |refine wkt rfl ?_));(try refine wk0 ?_);apply hK;clear hK K;(try dsimp only[ag,qs,qb])) |((first |refine ae ?_ |refine ac ?_);simp(disch:=decide) only[qs,qb,if_true,if_false,reduceIte]) |refine ah rfl (fun K hK=>?_) |refine ct rfl ?_ |((first |refine hK _ _ ?_ |(clear hK;refine hK _ _ ?_) |(clear hK;clear hK;refine hK _ _ ?_));clear hK;(try clear K)))
     repeat (first |(refine rg rfl rfl (fun K hK=>?_);(repeat (first |(refine wo rfl (fun k hk=>?_);simp(disch:=omega) only[go_sem,ξ,ζ];apply hk;clear hk k) |refine wkt rfl ?_));(try refine wk0 ?_);refine cN rfl rfl rfl rfl (by exact k1) ?_;rintro v1 h1 s1 rfl;(repeat (first |(refine wo rfl (fun k hk=>?_);simp(disch:=omega) only[go_sem,ξ,ζ];apply hk;clear hk k) |refine wkt rfl ?_));(try refine wk0 ?_);(try (simp(disch:=omega) only[go_sem,ξ,ζ]));apply hK;clear hK;(try clear K);(try dsimp only[ag,qs]);repeat (first |(refine rg rfl rfl (fun K hK=>?_);(repeat (first |(refine wo rfl (fun k hk=>?_);simp(disch:=omega) only[go_sem,ξ,ζ];apply hk;clear hk k) |refine wkt rfl ?_));(try refine wk0 ?_);apply hK;clear hK K;(try dsimp only[ag,qs,qb])) |((first |refine ae ?_ |refine ac ?_);simp(disch:=decide) only[qs,qb,if_true,if_false,reduceIte]) |refine ah rfl (fun K hK=>?_) |refine ct rfl ?_ |((first |refine hK _ _ ?_ |(clear hK;refine hK _ _ ?_) |(clear hK;clear hK;refine hK _ _ ?_));clear hK;(try clear K)))) |(refine rg rfl rfl (fun K hK=>?_);(repeat (first |(refine wo rfl (fun k hk=>?_);simp(disch:=omega) only[go_sem,ξ,ζ];apply hk;clear hk k) |refine wkt rfl ?_));(try refine wk0 ?_);refine cN rfl rfl rfl rfl (by exact k2) ?_;rintro v2 h2 s2 rfl;(repeat (first |(refine wo rfl (fun k hk=>?_);simp(disch:=omega) only[go_sem,ξ,ζ];apply hk;clear hk k) |refine wkt rfl ?_));(try refine wk0 ?_);(try (simp(disch:=omega) only[go_sem,ξ,ζ]));apply hK;clear hK;(try clear K);(try dsimp only[ag,qs]);repeat (first |(refine rg rfl rfl (fun K hK=>?_);(repeat (first |(refine wo rfl (fun k hk=>?_);simp(disch:=omega) only[go_sem,ξ,ζ];apply hk;clear hk k) |refine wkt rfl ?_));(try refine wk0 ?_);apply hK;clear hK K;(try dsimp only[ag,qs,qb])) |((first |refine ae ?_ |refine ac ?_);simp(disch:=decide) only[qs,qb,if_true,if_false,reduceIte]) |refine ah rfl (fun K hK=>?_) |refine ct rfl ?_ |((first |refine hK _ _ ?_ |(clear hK;refine hK _ _ ?_) |(clear hK;clear hK;refine hK _ _ ?_));clear hK;(try clear K)))))
     refine ai ?_;simp(disch:=omega) only[go_sem,ξ,ζ]
     all_goals first |rfl |(congr 1;(repeat' split)<;>omega)
end Go.Q
