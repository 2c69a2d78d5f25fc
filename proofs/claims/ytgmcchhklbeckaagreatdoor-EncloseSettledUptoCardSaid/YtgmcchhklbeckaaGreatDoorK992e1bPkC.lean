/-
  The operations that make or write memory, on abstract states, and what stands on it. Conditions: each theorem's own.
-/
import Derived.Test.YtgmcchhklbeckaaGreatDoorK2645baPkB
import Derived.Deep.LoopGhost
import Derived.Test.YtgmcchhklbeckaaGreatDoorProg
set_option linter.unusedVariables false
set_option linter.unusedSimpArgs false
open Nat renaming mul_le_mul_right→ψ,le_refl→η,mul_one→qAz,zero_le→qBh,mod_eq_of_lt→qBi,lt_or_ge→qBj,mod_lt→qBl
open Bool renaming and_eq_true→φ,false_eq_true→qAw
open List renaming length_append→qAp
namespace Go.Q
open Go.RowKit (Below)
def mk1 (P:Program) (T:TypeId):Option (Value×Nat):=match P.underlying T with
 | some (.slice e)=>match P.info? e with
  | some i=>match i.zero with
   |some v=>if i.size=1∧v.oneCell'=true∧1≤i.bytes then some (v,i.bytes) else none
   |none=>none
  |none=>none
 |_=>none
def mkB (P:Program) (T:TypeId):Option (List Value×Option Nat):=match P.underlying T with
 | some (.slice e)=>match zer P e,tk P e,P.info? e with
  |some z,some t,some i=>if i.size=bT t∧z.length=i.size∧1≤i.size then some (z,t) else none
  |_,_,_=>none
 |_=>none
@[go_sem] def repC (z:List Value):Nat→List Value
 |0=>[]
 |n+1=>z ++repC z n
@[go_sem] def srcA (S:AS) (h:PH) (y:AV) (k:Nat→List Value→Prop):Prop:=match y with
 |.v (.slice a m _)=>∃news:List Value,news.length=m∧(m≠0→∃ad,a=some ad∧∀(j:Nat) (v:Value),news[j]?=some v→h.at (ad.add j)=some v)∧k m news
 |.s i off m _=>off+m≤(S.box i).length∧k m (((S.box i).drop off).take m)
 |_=>False
@[go_sem] def appA (S:AS) (h:PH) (b:Nat) (x y:AV) (k:AS→PH→AV→Prop):Prop:=srcA S h y fun m news=>news.all Value.oneCell'=true∧match x with
 |.v (.slice none 0 0)=>(m=0→k S h (.v (.slice none 0 0)))∧(m≠0→(2*m+1024)*b≤2^48∧∀junk:List Value,k (S.push (news ++junk)) h (.s S.bx.length 0 m (m+junk.length)))
 |.s i off len cap=>off=0∧len≤cap∧cap=(S.box i).length∧(2*(len+m)+1024)*b≤2^48∧
   ∀junk:List Value,k ((S.setBox i []).push ((S.box i).take len ++news ++junk)) h (.s S.bx.length 0 (len+m) (len+m+junk.length))
 |_=>False
@[go_sem] def copA (S:AS) (h:PH) (x y:AV) (k:AS→PH→AV→Prop):Prop:=match x,y with
 |.s i off dlen _,.v (.slice a m _)=>∃news:List Value,news.length=min m dlen∧(m≠0→∃ad,a=some ad∧∀(j:Nat) (v:Value),news[j]?=some v→h.at (ad.add j)=some v)∧news.all Value.oneCell'=true∧off < (S.box i).length∧off+min m dlen≤(S.box i).length∧
   k (S.setBox i (spl (S.box i) off news)) h (.v (.int .i64 (min m dlen:Nat)))
 |_,_=>False
def ownA (M:Mach) (f:FuncId) (vs:List Value) (S:AS) (h:PH) (k:AS→PH→AV→Prop):Prop:=
 ∃R,SpecO M f vs.toArray h R∧(∀h',Step h h'→R [] 0 h'→k S h' (.v (.slice none 0 0)))∧∀row len h',Step h h'→row≠[]→R row len h'→k (S.push row) h' (.s S.bx.length 0 len row.length)
def loanA (M:Mach) (c:Nat) (f:FuncId) (args:List AV) (S:AS) (h:PH) (k:AS→PH→AV→Prop):Prop:=
 c=2∧∃i R,S.bx[i]?=some (S.box i)∧S.box i≠[]∧dn i args=true∧SpecL M f (args.map ren0) (S.box i) h R∧∀v row' h',Step h h'→R v row' h'→k (S.setBox i row') h' (.v v)
def lendA (M:Mach) (f:FuncId) (args:List AV) (S:AS) (h:PH) (k:AS→PH→AV→Prop):Prop:=
 ∃(i:Nat) (R:AV→Prop),S.bx[i]?=some (S.box i)∧S.box i≠[]∧dn i args=true∧(∀b h',Step h h'→h' b=some (S.box i).toArray→Spec M f (args.map (cv fun _=>b)).toArray h' (fun v _=>∃x,R x∧dn i [x]=true∧v=cv (fun _=>b) x) NP)∧∀x,R x→k S h x
@[go_sem] def imA (M:Mach) (op:Op) (S:AS) (h:PH) (E:List PanicEntry→PH→Prop) (k:AS→PH→AV→Prop):Prop:=match op with
 |.alloc T=>opt (zer M.P T) fun z=>k (S.push z) h (.p S.bx.length 0)
 | .box _ x=>match S.ev x with
  |.v v=>k (S.push v.cells.toList) h (.p S.bx.length 0)
  |_=>False
 | .store T x y=>match S.ev x,S.ev y with
  |.p i off,.v v=>opt (tk M.P T) fun t=>opt (fits t v) fun vs=>vs.all Value.oneCell'=true∧off < (S.box i).length∧off+vs.length≤(S.box i).length∧k (S.setBox i (spl (S.box i) off vs)) h .top
  |_,_=>False
 | .makeSlice T l c=>match S.ev l,S.ev c with
  |.v (.int _ l),.v (.int _ c)=>opt (mk1 M.P T) fun(z,b)=>0≤l∧l≤c∧(b:Int)*c≤2^48∧k (S.push (List.replicate c.toNat z)) h (.s S.bx.length 0 l.toNat c.toNat)
  |_,_=>False
 | .buildSlice T len parts=>match mk1 M.P T with
  |some (z,_)=>len≤2^24∧opt (fillA (fun i=>some (i,none)) (List.replicate len z) (parts.toList.map fun p=>(p.1,S.ev p.2))) fun cs=>k (S.push cs) h (.s S.bx.length 0 len len)
  |none=>opt (mkB M.P T) fun(z,t)=>len*bT t≤2^24∧1≤len∧opt (fillA (fun i=>some (i*bT t,t)) (repC z len) (parts.toList.map fun p=>(p.1,S.ev p.2))) fun cs=>k (S.push cs) h (.s S.bx.length 0 len len)
 | .call {callee:=.value f,args,argTypes:=_}=>match S.ev f with
  | .v (.func (.func f) first cap)=>match vals (args.toList.map S.ev) with
   |some vs=>(∃R E',Spec M f (first.toList ++vs ++cap.toList).toArray h R E'∧(∀v h',Step h h'→R v h'→k S h' (.v v))∧(∀ch h',Step h h'→E' ch h'→E ch h'))∨ownA M f (first.toList ++vs ++cap.toList) S h k
   |none=>first.toList=[]∧cap.toList=[]∧(loanA M (cls op) f (args.toList.map S.ev) S h k∨lendA M f (args.toList.map S.ev) S h k)
  |_=>False
 | .call {callee:=.builtin .append,args,argTypes}=>match args.toList,argTypes.toList with
  |[x,y],[T,U]=>uk M.P U=.slice∧opt (mk1 M.P T) fun(_,b)=>appA S h b (S.ev x) (S.ev y) k
  |_,_=>False
 | .call {callee:=.builtin .copy,args,argTypes}=>match args.toList,argTypes.toList with
  |[x,y],T :: _=>opt (mk1 M.P T) fun _=>copA S h (S.ev x) (S.ev y) k
  |_,_=>False
 | .panic x=>match S.ev x with
  |.v (.iface t v)=>E [{v:=.iface t v,recovered:=false}] h
  |_=>False
 |_=>False
theorem call_np {M:Mach} {f:FuncId} {args:Array Value} {h:PH} {R:Value→PH→Prop} {E:List PanicEntry→PH→Prop} {k:PH→Value→Prop} {X:Prop} (s:Spec M f args h R NP) (hk:∀v h',Step h h'→R v h'→k h' v):
  (∃R E',Spec M f args h R E'∧(∀v h',Step h h'→R v h'→k h' v)∧(∀ch h',Step h h'→E' ch h'→E ch h'))∨X:=.inl ⟨R,NP,s,hk,fun _ _ _ x=>(x:False).elim⟩
theorem call_own {M:Mach} {f:FuncId} {vs:List Value} {S:AS} {h:PH} {R:List Value→Nat→PH→Prop} {k:AS→PH→AV→Prop} {X:Prop} (s:SpecO M f vs.toArray h R) (h0:∀h',Step h h'→R [] 0 h'→k S h' (.v (.slice none 0 0))) (hk:∀row len h',Step h h'→row≠[]→R row len h'→k (S.push row) h' (.s S.bx.length 0 len row.length)):
  X∨ownA M f vs S h k:=.inr ⟨R,s,h0,hk⟩
theorem zB {M:Mach} {f:FuncId} {args:List AV} {S:AS} {h:PH} {R:Value→List Value→PH→Prop} {k:AS→PH→AV→Prop} {X:Prop} (i:Nat) (hi:S.bx[i]?=some (S.box i)) (hne:S.box i≠[]) (ho:dn i args=true) (s:SpecL M f (args.map ren0) (S.box i) h R) (hk:∀v row' h',Step h h'→R v row' h'→k (S.setBox i row') h' (.v v)):
  loanA M 2 f args S h k∨X:=.inl ⟨rfl,i,R,hi,hne,ho,s,hk⟩
theorem IY {M:Mach} {f:FuncId} {args:List AV} {S:AS} {h:PH} {R:Value→Prop} {k:AS→PH→AV→Prop} {X:Prop} (i:Nat) (hi:S.bx[i]?=some (S.box i)) (hne:S.box i≠[]) (ho:dn i args=true) (s:∀b h',Step h h'→h' b=some (S.box i).toArray→Spec M f (args.map (cv fun _=>b)).toArray h' (fun v _=>R v) NP) (hk:∀v,R v→k S h (.v v)):
  X∨lendA M f args S h k:=.inr ⟨i,fun x=>∃v,x=.v v∧R v,hi,hne,ho,fun b h' hs hb=>(s b h' hs hb).mono (fun v _ _ hr=>⟨.v v,⟨v,rfl,hr⟩,rfl,rfl⟩) (fun _ _ _ h=>h),fun x ⟨v,hx,hr⟩=>hx▸hk v hr⟩
theorem IZ {M:Mach} {f:FuncId} {args:List AV} {S:AS} {h:PH} {R:AV→Prop} {k:AS→PH→AV→Prop} {X:Prop} (i:Nat) (hi:S.bx[i]?=some (S.box i)) (hne:S.box i≠[]) (ho:dn i args=true) (s:∀b h',Step h h'→h' b=some (S.box i).toArray→Spec M f (args.map (cv fun _=>b)).toArray h' (fun v _=>∃x,R x∧dn i [x]=true∧v=cv (fun _=>b) x) NP) (hk:∀x,R x→k S h x):
  X∨lendA M f args S h k:=.inr ⟨i,R,hi,hne,ho,s,hk⟩
theorem Bs {i:Nat} {x:AV} (h:dn i [x]=true):∀j,x.ix=some j→j=i:=by
 intro j hj
 cases x with
 |top=>cases h
 |v x=>cases hj
 |p k off=>cases hj;simpa[dn] using h
 |s k off len cap=>cases hj;simpa[dn] using h
theorem only_cv1 {β:Nat→Nat} {i:Nat} {x:AV} (h:dn i [x]=true):cv (fun _=>β i) x=cv β x:=by
 have:=tG (β:=β) h
 simpa using this
section
variable {M:Mach} {C:Ctx} {n:Nat} {S:AS} {h:PH} {β:Nat→Nat} {a:Act} {w:World}
def ImOk (M:Mach) (C:Ctx) (n:Nat) (a:Act) (w:World) (o:Oper) (E:List PanicEntry→PH→Prop) (k:AS→PH→AV→Prop):Prop:=
 ∀ Q:Exit→Act→World→Prop,(∀ch h' w',Fine M C h' w'→E ch h'→Q (.panic ch) a w')→
  o.wp M.P a w (fun a' w'=>(cls o.op=2∨Below w.heap.size w w')∧∃S' h' x β',G M C n (S'.put o.dst x) h' β' a' w'∧k S' h' x) Q
theorem ImOk.mk {o:Oper} {E:List PanicEntry→PH→Prop} {k:AS→PH→AV→Prop} (hd:∀d,o.dst=some d→d < n) {v:Value} {w':World} {S':AS} {h':PH} {x:AV} {β':Nat→Nat}
  (hr:(execOp a.eval o).run M.P w=.ok (.value v) w') (hw:cls o.op=2∨Below w.heap.size w w') (g':G M C n S' h' β' a w') (hc:Conc β' x v) (hx:∀i,x.ix=some i→i < S'.bx.length) (hk:k S' h' x):
  ImOk M C n a w o E k:=fun Q _=>by
 simp only[Oper.wp,hr,Oper.upon]
 exact⟨hw,S',h',x,β',g'.put hd hc hx,hk⟩
theorem im_alloc (g:G M C n S h β a w) {o:Oper} (hd:∀d,o.dst=some d→d < n) {T:TypeId} (ho:o.op=.alloc T) {E:List PanicEntry→PH→Prop} {k:AS→PH→AV→Prop} (hk:imA M o.op S h E k):ImOk M C n a w o E k:=by
 rw[ho] at hk
 simp only[imA] at hk
 obtain⟨z,hz,hk⟩:=opt_iff.1 hk
 obtain⟨v,hv,hvc⟩:=uc hz w
 obtain⟨β',h1,h2,g'⟩:=g.push z T
 refine .mk hd (v:=.pointer (some ⟨w.heap.size,0,none⟩)) (x:=.p S.bx.length 0) ?_ (.inr ((Below.refl _ _).alloc (η _) _)) g' (.inr (by simp[cv,h2])) (fun i hi=>by cases hi;simp[AS.push]) hk
 simp[execOp,ho,Instr.alloc,hv,newVar,newRow,hvc]
theorem im_box (g:G M C n S h β a w) {o:Oper} (hd:∀d,o.dst=some d→d < n) {T:TypeId} {y:Operand} (ho:o.op=.box T y) {E:List PanicEntry→PH→Prop} {k:AS→PH→AV→Prop} (hk:imA M o.op S h E k):ImOk M C n a w o E k:=by
 rw[ho] at hk
 simp only[imA] at hk
 split at hk
 ·rename_i v hy
  obtain⟨β',h1,h2,g'⟩:=g.push v.cells.toList T
  refine .mk hd (v:=.pointer (some ⟨w.heap.size,0,none⟩)) (x:=.p S.bx.length 0) ?_ (.inr ((Below.refl _ _).alloc (η _) _)) g' (.inr (by simp[cv,h2])) (fun i hi=>by cases hi;simp[AS.push]) hk
  simp[execOp,ho,Instr.box,newVar,newRow,g.ev_v hy]
 ·exact hk.elim
structure RowStep (w w':World) (b:Nat):Prop where
 os:w'.os=w.os
 tape:w'.tape=w.tape
 output:w'.output=w.output
 size:w'.heap.size=w.heap.size
 other:∀k,k≠b→w'.heap[k]?=w.heap[k]?
theorem RowStep.refl (w:World) (b:Nat):RowStep w w b:=⟨rfl,rfl,rfl,rfl,fun _ _=>rfl⟩
theorem RowStep.trans {w w' w'':World} {b:Nat} (x:RowStep w w' b) (y:RowStep w' w'' b):RowStep w w'' b:=
 ⟨y.os.trans x.os,y.tape.trans x.tape,y.output.trans x.output,y.size.trans x.size,fun k hk=>(y.other k hk).trans (x.other k hk)⟩
theorem DL (w:World) (b off:Nat) (v:Value):RowStep w (w.setCell ⟨b,off,none⟩ v) b:=
 ⟨rfl,rfl,rfl,by simp,fun k hk=>heap_setCell_other w _ k v hk⟩
theorem jd {P:Program} {b:Nat} {T:TypeId}:∀(vs:List Value) (cs:List Value) (off i:Nat) (w:World),w.heap[b]?=some (.cells cs.toArray T (0,0))→off+i+vs.length≤cs.length→
  vs.all Value.oneCell'=true→∃w',(storeCells ⟨b,off,none⟩ vs i).run P w=.ok () w'∧w'.heap[b]?=some (.cells (spl cs (off+i) vs).toArray T (0,0))∧RowStep w w' b:=by
 intro vs
 induction vs with
 |nil=>intro cs off i w hw _ _;exact⟨w,rfl,hw,.refl _ _⟩
 | cons v vs ih=>
  intro cs off i w hw hle hall
  simp only[List.all_cons,φ,List.length_cons] at hall hle
  have hcell:w.cell? ⟨b,off+i,none⟩=some cs[off+i]:=by simp[World.cell?,hw]
  have hfree:w.frozen? ⟨b,off+i,none⟩=false:=frozen_of_row w b _ _ _ hw
  have hset:=heap_setCell_same w b (off+i) cs.toArray T v hw
  obtain⟨w',h1,h2,h3⟩:=ih (cs.set (off+i) v) off (i+1) (w.setCell ⟨b,off+i,none⟩ v) (by rw[hset];simp) (by simp;omega) hall.2
  refine⟨w',?_,by rw[←Nat.add_assoc] at h2;exact h2,(DL w b _ v).trans h3⟩
  simp only[storeCells,gF,Sem.run_bind,run_store _ _ _ _ _ hall.1,hcell,hfree,qAw,if_false,Result.andThen_ok]
  exact h1
theorem G.setBox (g:G M C n S h β a w) {i:Nat} {cs cs':List Value} (hi:S.bx[i]?=some cs) (hc:cs≠[]) (hl:cs'.length=cs.length) {w':World} {T:TypeId} (hrow:w'.heap[β i]?=some (.cells cs'.toArray T (0,0))) (hs:RowStep w w' (β i)):
  G M C n (S.setBox i cs') h β a w':=by
 have hb:=g.boxes i cs hi hc
 have hlen:i < S.bx.length:=(List.getElem?_eq_some_iff.1 hi).1
 have hne':cs'≠[]:=by intro e;subst e;simp at hl;exact hc (List.length_eq_zero_iff.1 hl.symm)
 have hget:∀(j:Nat) (cj:List Value),(S.bx.set i cs')[j]?=some cj→(j=i∧cj=cs')∨(j≠i∧S.bx[j]?=some cj):=by
  intro j cj hj
  by_cases h:j=i
  ·subst h;rw[List.getElem?_set_self hlen] at hj;exact .inl ⟨rfl,(Option.some.inj hj).symm⟩
  ·rw[List.getElem?_set_ne (Ne.symm h)] at hj;exact .inr ⟨h,hj⟩
 have hold:∀(j:Nat) (cj:List Value),(S.bx.set i cs')[j]?=some cj→cj≠[]→∃cj',S.bx[j]?=some cj'∧cj'≠[]:=by
  intro j cj hj hn
  rcases hget j cj hj with⟨rfl,rfl⟩ |⟨_,hj⟩
  ·exact⟨cs,hi,hc⟩
  ·exact⟨cj,hj,hn⟩
 refine⟨g.size,g.defers,⟨⟨hs.os.trans g.fine.below.os,hs.tape.trans g.fine.below.tape,hs.output.trans g.fine.below.output,by rw[hs.size];exact g.fine.below.size,fun k hk=>?_⟩,fun b cs hb'=>?_,g.fine.sub,g.fine.new,g.fine.gl⟩,fun j cj hj hn=>?_,fun p q cp cq hp hq hnp hnq hpq=>?_,g.slots,fun t q hq=>?_,by simpa[AS.setBox] using g.pin⟩
 ·rw[hs.other k (by have:=hb.old;omega)];exact g.fine.below.block k hk
 ·have hbne:b≠β i:=fun e=>by rw[e,hb.own] at hb';cases hb'
  obtain⟨T',f,hw⟩:=g.fine.has b cs hb'
  exact⟨T',f,by rw[hs.other b hbne];exact hw⟩
 ·rcases hget j cj hj with⟨rfl,rfl⟩ |⟨hji,hj⟩
  ·exact⟨⟨T,hrow⟩,hb.old,hb.own⟩
  ·have hbj:=g.boxes j cj hj hn
   have hne:β j≠β i:=fun e=>hji (g.inj j i cj cs hj hi hn hc e)
   obtain⟨T',hw⟩:=hbj.row
   exact⟨⟨T',by rw[hs.other _ hne];exact hw⟩,hbj.old,hbj.own⟩
 ·obtain⟨cp',hp',hnp'⟩:=hold p cp hp hnp
  obtain⟨cq',hq',hnq'⟩:=hold q cq hq hnq
  exact g.inj p q cp' cq' hp' hq' hnp' hnq' hpq
 ·have:=g.wf t q hq
  simpa[AS.setBox] using this
theorem im_store (g:G M C n S h β a w) {o:Oper} (hd:∀d,o.dst=some d→d < n) {T:TypeId} {x y:Operand} (ho:o.op=.store T x y) {E:List PanicEntry→PH→Prop} {k:AS→PH→AV→Prop} (hk:imA M o.op S h E k):ImOk M C n a w o E k:=by
 rw[ho] at hk
 simp only[imA] at hk
 split at hk
 ·rename_i i off v hx hy
  obtain⟨t,ht,hk⟩:=opt_iff.1 hk
  obtain⟨vs,hvs,hk⟩:=opt_iff.1 hk
  obtain⟨hall,hlt,hle,hk⟩:=hk
  have hi:i < S.bx.length:=g.wf_ev (by rw[hx];rfl)
  have hget:S.bx[i]?=some (S.box i):=by simp[AS.box,hi]
  obtain⟨hc,hl⟩:=uF hvs
  have hsz:(sizeOf T).run M.P w=.ok (bT t) w:=by
   cases t with
   |none=>exact(wH ht w).2
   |some m=>exact(tT ht w).2
  have hne:S.box i≠[]:=by intro e;rw[e] at hlt;simp at hlt
  obtain⟨T',hw⟩:=(g.boxes i _ hget hne).row
  obtain⟨w',h1,h2,h3⟩:=jd (P:=M.P) vs (S.box i) off 0 w hw (by simpa using hle) hall
  have hrun:(execOp a.eval o).run M.P w=.ok .skip w':=by
   simp only[execOp,ho,Instr.storeAt,Instr.sureAddr,g.ev_p hx,g.ev_v hy,Sem.run_bind,Sem.run_pure,Result.andThen_ok,storeVar,hsz,hc]
   rw[←hl]
   simp[h1]
  intro Q _
  simp only[Oper.wp,hrun,Oper.upon]
  exact⟨.inl (by rw[ho];rfl),S.setBox i (spl (S.box i) off vs),h,.top,β,G.put (g.setBox hget hne (by rw[sm]) (by simpa using h2) h3) hd (.inl rfl) (fun i hi=>by cases hi),hk⟩
 ·exact hk.elim
theorem JF {v:Value} (h:v.oneCell'=true):v.cells=#[v]:=by
 cases v<;>first |rfl |cases h
theorem tE {P:Program} {T:TypeId} {z:Value} {b:Nat} (h:mk1 P T=some (z,b)):∃E i,P.underlying T=some (.slice E)∧P.info? E=some i∧i.bytes=b∧i.size=1∧i.zero=some z∧z.cells=#[z]∧1≤b:=by
 unfold mk1 at h
 split at h
 ·rename_i E hE
  split at h
  ·rename_i i hi
   split at h
   ·rename_i v hv
    split at h
    ·rename_i hc
     cases h
     exact⟨E,i,hE,hi,rfl,hc.1,hv,JF hc.2.1,hc.2.2⟩
    ·cases h
   ·cases h
  ·cases h
 ·cases h
theorem yQ (z:Value) (n:Nat):(Array.range n).map (fun x=>(#[z]:Array Value)[x % (#[z]:Array Value).size]!)=(List.replicate n z).toArray:=by
 apply Array.ext
 ·simp
 ·intro i h1 h2
  simp[Nat.mod_one]
theorem H5 {x:Int} (h0:0≤x) (h1:x≤2^48):IntKind.i64.wrap x=x:=by
 rw[IntKind.wrap_i64]
 omega
theorem Bf (g:G M C n S h β a w) {o:Oper} (hd:∀d,o.dst=some d→d < n) {T:TypeId} {x y:Operand} (ho:o.op=.makeSlice T x y) {E:List PanicEntry→PH→Prop} {k:AS→PH→AV→Prop} (hk:imA M o.op S h E k):ImOk M C n a w o E k:=by
 rw[ho] at hk
 simp only[imA] at hk
 split at hk
 ·rename_i K l K' c hx hy
  obtain⟨⟨z,b⟩,hz,hk⟩:=opt_iff.1 hk
  obtain⟨h0,h1,h2,hk⟩:=hk
  dsimp only at h2 hk
  obtain⟨e,i,hE,hi,hb,hs,hzero,hzc,hb1⟩:=tE hz
  have hc48:c≤2^48:=by
   have:(1:Int)*c≤(b:Int)*c:=Int.mul_le_mul_of_nonneg_right (by omega) (by omega)
   omega
  have hwl:IntKind.i64.wrap l=l:=H5 h0 (by omega)
  have hwc:IntKind.i64.wrap c=c:=H5 (by omega) hc48
  obtain⟨β',g1,g2,g'⟩:=g.push (List.replicate c.toNat z) e
  refine .mk hd (v:=.slice (some ⟨w.heap.size,0,none⟩) l.toNat c.toNat) (x:=.s S.bx.length 0 l.toNat c.toNat) ?_ (.inr ((Below.refl _ _).alloc (η _) _)) g' (.inr (by simp[cv,g2])) (fun i hi=>by cases hi;simp[AS.push]) hk
  have hbig:(decide (c < 0) || decide (2^48 < (i.bytes:Int)*c) || decide (l < 0) || decide (c < l))=false:=by
   simp only[Bool.or_eq_false_iff,decide_eq_false_iff_not]
   rw[hb]
   omega
  have hzr:=yQ z c.toNat
  by_cases hcz:c.toNat=0
  ·simp[execOp,ho,Instr.makeSlice,run_underlying hE,g.ev_v hx,g.ev_v hy,asInt,asIntOf,typeInfo,hi,hwl,hwc,newRow,sizeOf,hs,hcz]
   rw[if_neg (by rw[hb];omega)]
   simp[Array.range_zero']
  ·simp[execOp,ho,Instr.makeSlice,run_underlying hE,g.ev_v hx,g.ev_v hy,asInt,asIntOf,typeInfo,hi,hwl,hwc,newRow,sizeOf,hs,hcz,zeroValue,hzero,hzc]
   rw[if_neg (by rw[hb];omega)]
   have hz2:Array.map (fun x=>[z][x % 1]?.getD default) (Array.range c.toNat)=Array.replicate c.toNat z:=by simpa using hzr
   rw[hz2]
 ·exact hk.elim
theorem im_call (g:G M C n S h β a w) {o:Oper} (hd:∀d,o.dst=some d→d < n) {f:Operand} {args:Array Operand} {ts:Array TypeId} (ho:o.op=.call {callee:=.value f,args,argTypes:=ts}) {E:List PanicEntry→PH→Prop} {k:AS→PH→AV→Prop} (hk:imA M o.op S h E k):ImOk M C n a w o E k:=by
  have hk0:=hk
  rw[ho] at hk0
  simp only[imA] at hk0
  split at hk0
  · rename_i fid first cap hf
    split at hk0
    · rename_i vs hvs
      have hargs:args.map a.eval=vs.toArray:=sw g hvs
      have hrun:∀(_:dS M.P fid=true),(execOp a.eval o).run M.P w=.ok (.enter fid (first.toList ++vs ++cap.toList).toArray) w:=by
        intro hok
        simp only[execOp,ho,resolve,Deferred.ofValue,g.ev_v hf,hargs,Sem.run_bind,Sem.run_pure,Result.andThen_ok,invoke]
        rw[iF hok]
        congr 2
        apply Array.ext'
        simp
      rcases hk0 with hk |hk
      · obtain⟨R,E',hspec,hR,hE⟩:=hk
        intro Q hQ
        simp only[Oper.wp,hrun hspec.ok,Oper.upon]
        refine(hspec.run w g.fine.has g.fine.gl).mono fun e w' hp=>?_
        cases e with
        | returned v=>
          obtain⟨h',hb,hh,hs,hn,hr⟩:=hp
          have g':=g.grow hb hh hs hn
          exact⟨.inr hb,S,h',.v v,β,g'.put hd (.inr rfl) (fun i hi=>by cases hi),hR v h' ⟨hs⟩ hr⟩
        | panicked ch=>
          obtain⟨h',hb,hh,hs,hn,he⟩:=hp
          exact hQ ch h' w' (g.grow hb hh hs hn).fine (hE ch h' ⟨hs⟩ he)
        |outgrown=>exact(hp:False).elim
      · obtain⟨R,hspec,h0,hR⟩:=hk
        intro Q hQ
        simp only[Oper.wp,hrun hspec.ok,Oper.upon]
        refine(hspec.run w g.fine.has g.fine.gl).mono fun e w' hp=>?_
        cases e with
        | returned v=>
          obtain⟨h',hb,hh,hs,hn,hr⟩:=hp
          rcases hr with⟨rfl,hr⟩ |⟨b,row,len,T,rfl,hlb,hfree,hrow,hne,hr⟩
          · have g':=g.grow hb hh hs hn
            exact⟨.inr hb,S,h',.v _,β,g'.put hd (.inr rfl) (fun i hi=>by cases hi),h0 h' ⟨hs⟩ hr⟩
          · obtain⟨β',hβ,hβl,g'⟩:=g.adopt hb hh hs hn hlb hfree hrow
            exact⟨.inr hb,S.push row,h',.s S.bx.length 0 len row.length,β',g'.put hd (.inr (by simp only[cv,hβl])) (fun i hi=>by
              simp only[AV.ix,Option.some.injEq] at hi;subst hi;simp[AS.push]),hR row len h' ⟨hs⟩ hne hr⟩
        |panicked ch=>exact(hp:False).elim
        |outgrown=>exact(hp:False).elim
    · obtain⟨hfi,hca,hk⟩:=hk0
      have hrun:∀{i:Nat} (_:dn i (args.toList.map S.ev)=true) (_:dS M.P fid=true),(execOp a.eval o).run M.P w=.ok (.enter fid ((args.toList.map S.ev).map (cv β)).toArray) w:=by
        intro i hon hok
        have hargs:args.map a.eval=((args.toList.map S.ev).map (cv β)).toArray:=by
          apply Array.ext'
          rw[←wq g hon]
          simp
        simp only[execOp,ho,resolve,Deferred.ofValue,g.ev_v hf,hargs,Sem.run_bind,Sem.run_pure,Result.andThen_ok,invoke]
        rw[iF hok]
        congr 2
        apply Array.ext'
        simp[hfi,hca]
      rcases hk with hk |hk
      · obtain⟨hc,i,R,hi,hne,hon,hspec,hR⟩:=hk
        intro Q hQ
        simp only[Oper.wp,hrun hon hspec.ok,Oper.upon]
        have hcl:cls o.op=2:=by rw[ho];exact hc
        have hr:=hspec.run C (shift i β) (S.bx.set i []) w g.fine (g.rows hi hne)
        rw[BA (β:=β) (i:=i) rfl hon] at hr
        refine hr.mono fun e w' hp=>?_
        cases e with
        | returned v=>
          obtain⟨row',h',hf',hs,hrows,hr⟩:=hp
          have g':=g.back hi hne hf' hrows
          exact⟨.inl hcl,S.setBox i row',h',.v v,β,g'.put hd (.inr rfl) (fun i hi=>by cases hi),hR v row' h' ⟨hs⟩ hr⟩
        |panicked ch=>exact(hp:False).elim
        |outgrown=>exact(hp:False).elim
      · obtain⟨i,R,hi,hne,hon,hspec,hR⟩:=hk
        intro Q hQ
        have hb:=g.boxes i _ hi hne
        obtain⟨T,hw⟩:=hb.row
        have hsub:Sub h (fun b=>if b=β i then some (S.box i).toArray else h b):=fun b cs hx=>by
          have:b≠β i:=fun e=>by rw[e,hb.own] at hx;cases hx
          simp only[if_neg this];exact hx
        have hs:=hspec (β i) _ ⟨hsub⟩ (by simp)
        rw[tG hon] at hs
        simp only[Oper.wp,hrun hon hs.ok,Oper.upon]
        refine(hs.run w (fun b cs hx=>?_) (g.fine.gl.trans hsub)).mono fun e w' hp=>?_
        · by_cases hbi:b=β i
          · subst hbi
            simp only[if_true,Option.some.injEq] at hx
            subst hx
            exact⟨T,(0,0),hw⟩
          · simp only[if_neg hbi] at hx;exact g.fine.has b cs hx
        · cases e with
          | returned v=>
            obtain⟨h',hbl,hh,hs,hn,x,hr,hox,rfl⟩:=hp
            have g':=g.below hbl
            exact⟨.inr hbl,S,h,x,β,g'.put hd (.inr (only_cv1 hox)) (fun j hj=>by rw[Bs hox j hj];exact(List.getElem?_eq_some_iff.1 hi).1),hR x hr⟩
          | panicked ch=>
            obtain⟨_,_,_,_,_,he⟩:=hp
            exact(he:False).elim
          |outgrown=>exact(hp:False).elim
  · exact hk0.elim
theorem im_panic (g:G M C n S h β a w) {o:Oper} {x:Operand} (ho:o.op=.panic x) {E:List PanicEntry→PH→Prop} {k:AS→PH→AV→Prop} (hk:imA M o.op S h E k):ImOk M C n a w o E k:=by
 rw[ho] at hk
 simp only[imA] at hk
 split at hk
 ·rename_i t v hx
  intro Q hQ
  have hrun:(execOp a.eval o).run M.P w=.halt (.panic (.iface t v)) w:=by
   simp[execOp,ho,g.ev_v hx,Instr.panic]
  simp only[Oper.wp,hrun,Oper.upon]
  exact hQ _ h w g.fine hk
 ·exact hk.elim
theorem mkB_some {P:Program} {T:TypeId} {z:List Value} {t:Option Nat} (h:mkB P T=some (z,t)):∃E i,P.underlying T=some (.slice E)∧P.info? E=some i∧zer P E=some z∧i.size=bT t∧z.length=i.size∧1≤i.size:=by
 unfold mkB at h
 split at h
 ·rename_i E hE
  split at h
  ·rename_i z' t' i hz ht hi
   split at h
   ·rename_i hc
    cases h
    exact⟨E,i,hE,hi,hz,hc⟩
   ·cases h
  ·cases h
 ·cases h
theorem vH (z:List Value) (n:Nat):(repC z n).length=n*z.length:=by
 induction n with
 |zero=>simp[repC]
 |succ n ih=>simp only[repC,qAp,ih,Nat.succ_mul];omega
theorem repC_get (z:List Value):∀(n i:Nat),i < n*z.length→(repC z n)[i]?=z[i % z.length]?:=by
 intro n
 induction n with
 |zero=>intro i hi;simp at hi
 | succ n ih=>
  intro i hi
  simp only[repC,List.getElem?_append]
  by_cases hl:i < z.length
  ·rw[if_pos hl,qBi hl]
  ·rw[if_neg hl,ih _ (by rw[Nat.succ_mul] at hi;omega),←Nat.mod_eq_sub_mod (by omega)]
theorem J7 (z:List Value) (n:Nat) (hz:1≤z.length):(Array.range (n*z.length)).map (fun x=>z.toArray[x % z.toArray.size]!)=(repC z n).toArray:=by
 apply Array.ext
 ·simp[vH]
 ·intro i h1 h2
  have hi:i < n*z.length:=by simpa using h1
  have hg:=repC_get z n i hi
  have hm:i % z.length < z.length:=qBl _ (by omega)
  rw[List.getElem?_eq_getElem (by rw[vH];exact hi),List.getElem?_eq_getElem hm] at hg
  simp[hm,Option.some.inj hg]
theorem yU (g:G M C n S h β a w) {o:Oper} (hd:∀d,o.dst=some d→d < n) {T:TypeId} {len:Nat} {parts:Array (Nat×Operand)} (ho:o.op=.buildSlice T len parts) {E:List PanicEntry→PH→Prop} {k:AS→PH→AV→Prop} (hk:imA M o.op S h E k):ImOk M C n a w o E k:=by
 rw[ho] at hk
 simp only[imA] at hk
 split at hk
 case h_2=>
  obtain⟨⟨z,t⟩,hz,hk⟩:=opt_iff.1 hk
  dsimp only at hk
  obtain⟨hlen,hl1,hk⟩:=hk
  obtain⟨cs,hcs,hk⟩:=opt_iff.1 hk
  obtain⟨e,i,hE,hi,hze,hsz,hzl,h1⟩:=mkB_some hz
  obtain⟨v,hv,hvc⟩:=uc hze w
  obtain⟨β',g1,g2,g'⟩:=g.push cs e
  refine .mk hd (v:=.slice (some ⟨w.heap.size,0,none⟩) len len) (x:=.s S.bx.length 0 len len) ?_ (.inr ((Below.refl _ _).alloc (η _) _)) g' (.inr (by simp[cv,g2])) (fun i hi=>by cases hi;simp[AS.push]) hk
  have hfill:=vZ (place':=fun i=>some (i*bT t,bT t)) g (fun i off t' hp=>by cases hp;rfl) parts.toList (repC z len) cs hcs
  have hparts:(parts.map fun(i,x)=>(i,a.eval x)).toList=parts.toList.map fun p=>(p.1,a.eval p.2):=by simp
  have hle:¬(len*bT t > 2^24):=by omega
  have hn0:¬(len*bT t=0):=by
   have:=Nat.mul_pos (show 0 < len by omega) (show 0 < bT t by omega)
   omega
  have hrow:(Array.range (len*bT t)).map (fun x=>(v.cells)[x % (v.cells).size]!)=(repC z len).toArray:=by
   rw[hvc,←hsz,←hzl]
   exact J7 z len (by omega)
  simp only[execOp,ho,Instr.buildSlice,run_underlying hE,Sem.run_bind,Result.andThen_ok,sizeOf,typeInfo,run_program,hi,Sem.run_pure,hsz,Sem.run_ite,if_neg hle,if_neg hn0,hparts]
  rw[hv]
  simp only[Result.andThen_ok,Sem.run_pure,Sem.run_bind]
  rw[hrow,hfill]
  rfl
 rename_i z b hz
 obtain⟨hlen,hk⟩:=hk
 obtain⟨cs,hcs,hk⟩:=opt_iff.1 hk
 obtain⟨e,i,hE,hi,hb,hs,hzero,hzc,hb1⟩:=tE hz
 obtain⟨β',g1,g2,g'⟩:=g.push cs e
 refine .mk hd (v:=.slice (some ⟨w.heap.size,0,none⟩) len len) (x:=.s S.bx.length 0 len len) ?_ (.inr ((Below.refl _ _).alloc (η _) _)) g' (.inr (by simp[cv,g2])) (fun i hi=>by cases hi;simp[AS.push]) hk
 have hfill:=vZ (place':=fun i=>some (i*1,1)) g (fun i off t hp=>by cases hp;simp[bT]) parts.toList (List.replicate len z) cs hcs
 have hparts:(parts.map fun(i,x)=>(i,a.eval x)).toList=parts.toList.map fun p=>(p.1,a.eval p.2):=by simp
 have hzr:=yQ z len
 have hle:¬(len*1 > 2^24):=by omega
 have hrow:∀zz:Array Value,(len≠0→zz=#[z])→(Array.range (len*1)).map (fun x=>zz[x % zz.size]!)=(List.replicate len z).toArray:=by
  intro zz hzz
  by_cases h0:len=0
  ·subst h0;simp[Array.range_zero']
  ·rw[hzz h0,qAz];exact hzr
 by_cases h0:len*1=0
 ·simp only[execOp,ho,Instr.buildSlice,run_underlying hE,Sem.run_bind,Result.andThen_ok,sizeOf,typeInfo,run_program,hi,Sem.run_pure,hs,Sem.run_ite,if_neg hle,if_pos h0,hparts]
  rw[hrow #[] (by omega),hfill]
  rfl
 ·simp only[execOp,ho,Instr.buildSlice,run_underlying hE,Sem.run_bind,Result.andThen_ok,sizeOf,typeInfo,run_program,hi,Sem.run_pure,hs,Sem.run_ite,if_neg hle,if_neg h0,hparts,zeroValue,hzero,hzc]
  rw[hrow #[z] (fun _=>rfl),hfill]
  rfl
end
open Go.RowKit (Below)
section
variable {M:Mach} {C:Ctx} {n:Nat} {S:AS} {h:PH} {β:Nat→Nat} {a:Act} {w:World}
theorem Jm (need:Nat):∀(r c:Nat),c≤need+(need+768) / 4→Builtin.growBy need r c≤need+(need+768) / 4:=by
 intro r
 induction r with
 |zero=>intro c h;exact h
 | succ r ih=>
  intro c h
  simp only[Builtin.growBy]
  split
  ·exact h
  ·exact ih _ (by omega)
theorem next_le {need cap:Nat} (h:cap < need):Builtin.nextslicecap need cap≤2*need+1024:=by
 unfold Builtin.nextslicecap
 split
 ·omega
 ·split
  ·omega
  ·have:=Jm need 4 cap (by omega);omega
theorem yX (z:Value) (n:Nat):Builtin.zeroCells #[z] n=(List.replicate n z).toArray:=by
 unfold Builtin.zeroCells
 have:=yQ z n
 simpa using this
theorem gt (w:World):Below w.heap.size w w.drew:=(Below.refl _ _).drew
theorem G.move (g:G M C n S h β a w) {i:Nat} {cs:List Value} (hi:S.bx[i]?=some cs):
  ∃β',β' S.bx.length=β i∧G M C n ((S.setBox i []).push cs) h β' a w:=by
 have hlen:i < S.bx.length:=(List.getElem?_eq_some_iff.1 hi).1
 refine⟨fun j=>if j=S.bx.length then β i else β j,by simp,?_⟩
 have hget:∀(j:Nat) (cj:List Value),((S.setBox i []).push cs).bx[j]?=some cj→cj≠[]→(j=S.bx.length∧cj=cs)∨(j≠S.bx.length∧j≠i∧S.bx[j]?=some cj):=by
  intro j cj hj hn
  simp only[AS.push,AS.setBox] at hj
  rcases Nat.lt_trichotomy j S.bx.length with hl |hl |hl
  ·rw[List.getElem?_append_left (by simpa using hl)] at hj
   by_cases hji:j=i
   ·subst hji;rw[List.getElem?_set_self hlen] at hj;exact(hn (Option.some.inj hj).symm).elim
   ·rw[List.getElem?_set_ne (Ne.symm hji)] at hj;exact .inr ⟨by omega,hji,hj⟩
  ·subst hl
   rw[List.getElem?_append_right (by simp)] at hj
   simp at hj
   exact .inl ⟨rfl,hj.symm⟩
  ·rw[List.getElem?_append_right (by simp;omega)] at hj
   rw[List.getElem?_eq_none (by simp;omega)] at hj;cases hj
 refine⟨g.size,g.defers,g.fine,fun j cj hj hn=>?_,fun p q cp cq hp hq hnp hnq hpq=>?_,fun t=>?_,fun t q hq=>?_,?_,fun j hj=>?_⟩
 ·rcases hget j cj hj hn with⟨rfl,rfl⟩ |⟨h1,h2,h3⟩
  ·simp only[if_true];exact g.boxes i _ hi hn
  ·simp only[if_neg h1];exact g.boxes j cj h3 hn
 ·rcases hget p cp hp hnp with⟨hp1,hp2⟩ |⟨h1,h2,h3⟩<;>rcases hget q cq hq hnq with⟨hq1,hq2⟩ |⟨k1,k2,k3⟩
  ·omega
  ·subst hp2
   simp only[if_pos hp1,if_neg k1] at hpq
   exact(k2 (g.inj i q _ _ hi k3 hnp hnq hpq).symm).elim
  ·subst hq2
   simp only[if_neg h1,if_pos hq1] at hpq
   exact(h2 (g.inj p i _ _ h3 hi hnp hnq hpq)).elim
  ·simp only[if_neg h1,if_neg k1] at hpq
   exact g.inj p q cp cq h3 k3 hnp hnq hpq
 ·have hw:=g.wf t
  rcases g.slots t with hs |hs
  ·exact .inl hs
  ·refine .inr ?_
   rw[hs]
   simp only[AS.push,AS.setBox]
   cases hx:lk S.sl t with
   |top=>rfl
   |v x=>rfl
   |p j off=>have:=hw j (by rw[hx];rfl);simp only[cv,if_neg (show ¬j=S.bx.length by omega)]
   |s j off len cap=>have:=hw j (by rw[hx];rfl);simp only[cv,if_neg (show ¬j=S.bx.length by omega)]
 ·have:=g.wf t q hq
  simp only[AS.push,AS.setBox,qAp,List.length_set]
  omega
 ·have:=g.pin.1
  simp only[AS.push,AS.setBox,qAp,List.length_set]
  omega
 ·have:=g.pin.1
  simp only[if_neg (show ¬j=S.bx.length by omega)]
  exact g.pin.2 j hj
theorem G.kill (g:G M C n S h β a w) (i:Nat):G M C n (S.setBox i []) h β a w:=by
 have hget:∀(j:Nat) (cj:List Value),(S.setBox i []).bx[j]?=some cj→cj≠[]→S.bx[j]?=some cj:=by
  intro j cj hj hn
  simp only[AS.setBox] at hj
  by_cases hji:j=i
  ·subst hji
   rcases qBj j S.bx.length with hl |hl
   ·rw[List.getElem?_set_self hl] at hj;exact(hn (Option.some.inj hj).symm).elim
   ·rw[List.getElem?_eq_none (by simpa using hl)] at hj;cases hj
  ·rw[List.getElem?_set_ne (Ne.symm hji)] at hj;exact hj
 exact⟨g.size,g.defers,g.fine,fun j cj hj hn=>g.boxes j cj (hget j cj hj hn) hn,fun p q cp cq hp hq hnp hnq=>g.inj p q cp cq (hget p cp hp hnp) (hget q cq hq hnq) hnp hnq,g.slots,fun t q hq=>by
  have:=g.wf t q hq
  simpa[AS.setBox] using this,by simpa[AS.setBox] using g.pin⟩
theorem spl_eq:∀(vs cs:List Value) (off:Nat),off+vs.length≤cs.length→spl cs off vs=cs.take off ++vs ++cs.drop (off+vs.length):=by
 intro vs
 induction vs with
 |nil=>intro cs off _;simp[spl]
 | cons v vs ih=>
  intro cs off hle
  simp only[List.length_cons] at hle
  rw[spl,ih _ _ (by simp;omega)]
  rw[List.take_add_one,List.getElem?_set_self (by omega),List.take_set_of_le (η _),List.drop_set_of_lt (by omega)]
  simp[Nat.add_assoc,Nat.add_comm 1]
theorem src_run (g:G M C n S h β a w) {y:Operand} {k:Nat→List Value→Prop} (hk:srcA S h (S.ev y) k):
  ∃ (ad:Option Addr) (m cap:Nat) (news:List Value),a.eval y=.slice ad m cap∧news.length=m∧k m news∧
   (∀w',G M C n S h β a w'→(Builtin.firstCells 1 m (.slice ad m cap)).run M.P w'=.ok news.toArray w'):=by
 unfold srcA at hk
 split at hk
 ·rename_i ad m cap hy
  obtain⟨news,hl,hc,hk⟩:=hk
  refine⟨ad,m,cap,news,g.ev_v hy,hl,hk,fun w' g'=>?_⟩
  by_cases hm:m=0
  ·subst hm
   obtain rfl:news=[]:=List.length_eq_zero_iff.1 hl
   cases ad<;>simp[Builtin.firstCells,loadCells,loadCellsFrom]
  ·obtain⟨ad',rfl,hc'⟩:=hc hm
   simp only[Builtin.firstCells,qAz]
   rw[←hl]
   exact run_loadCells_list _ _ news (fun j v hj=>g'.fine.has.cell (hc' j v hj))
 ·rename_i i off m cap hy
  obtain⟨hle,hk⟩:=hk
  have hi:i < S.bx.length:=g.wf_ev (by rw[hy];rfl)
  have hl:(((S.box i).drop off).take m).length=m:=by simp;omega
  refine⟨_,m,cap,_,g.ev_s hy,hl,hk,fun w' g'=>?_⟩
  simp only[Builtin.firstCells,qAz]
  have:=run_loadCells_list (P:=M.P) (w:=w') ⟨β i,off,none⟩ (((S.box i).drop off).take m) (fun j v hj=>by
   rw[gF]
   refine g'.box_get hi ?_
   rw[List.getElem?_take] at hj
   split at hj
   ·rw[List.getElem?_drop] at hj;exact hj
   ·cases hj)
  rw[hl] at this
  exact this
 ·exact hk.elim
theorem pf {P:Program} {T U E e':TypeId} {i:TypeInfo} (hT:P.underlying T=some (.slice E)) (hU:P.underlying U=some (.slice e')) (hi:P.info? E=some i) (hs:i.size=1) (hb:1≤i.bytes) {base ad:Option Addr} {len cap m c:Nat} {w:World}:
  (len+m≤cap→∀(news:Array Value) (w':World),(Builtin.firstCells 1 m (.slice ad m c)).run P w=.ok news w→(match base with |some a=>storeCells (a.add (len*1)) news.toList |none=>pure ():Sem Unit).run P w=.ok () w'→
   (Builtin.append_ #[T,U] T #[.slice base len cap,.slice ad m c]).run P w=.ok (.slice base (len+m) cap) w'):=by
 intro hle news w' hn hst
 simp only[Builtin.append_,Sem.run_bind,run_underlying hT,run_underlying hU,Result.andThen_ok,Sem.run_pure,sizeOf,typeInfo,run_program,hi,hs,Builtin.lenOf,
  List.getElem?_toArray,List.getElem?_cons_zero,List.getElem?_cons_succ,qAw,if_false,Bool.not_false,if_true,hle,hn]
 cases base with
 | none=>
  simp only[Sem.run_pure,Result.ok.injEq,true_and] at hst
  subst hst
  rfl
 | some ad=>
  simp only at hst
  simp only[Sem.run_bind,hst,Result.andThen_ok,Sem.run_pure]
theorem CP {P:Program} {T U E e':TypeId} {i:TypeInfo} {z:Value} (hT:P.underlying T=some (.slice E)) (hU:P.underlying U=some (.slice e')) (hi:P.info? E=some i) (hs:i.size=1) (hb:1≤i.bytes)
  (hz:i.zero=some z) (hzc:z.cells=#[z]) {base ad:Option Addr} {len cap m c:Nat} {w:World} (hlt:cap < len+m) (hroom:(2*(len+m)+1024)*i.bytes≤2^48) {old news:Array Value}
  (ho:(Builtin.firstCells 1 len (.slice base len cap)).run P w.drew=.ok old w.drew) (hn:(Builtin.firstCells 1 m (.slice ad m c)).run P w.drew=.ok news w.drew):
  ∃j:Nat,(Builtin.append_ #[T,U] T #[.slice base len cap,.slice ad m c]).run P w=.ok (.slice (some ⟨w.heap.size,0,none⟩) (len+m) (len+m+j)) (w.drew.alloc (.cells (old ++news ++(List.replicate j z).toArray) E)):=by
 have h1:¬(len+m≤cap):=by omega
 have h2:¬(((len+m:Nat):Int) > IntKind.i64.max∧(i.bytes=0)):=by omega
 have h3:¬(Builtin.nextslicecap (len+m) cap*i.bytes > 2^48):=by
  have:=ψ i.bytes (next_le hlt)
  omega
 refine⟨w.tape w.drawn (.appendCap (len+m) cap E) % (2^63 - (len+m)),?_⟩
 simp only[Builtin.append_,Sem.run_bind,run_underlying hT,run_underlying hU,Result.andThen_ok,Sem.run_pure,sizeOf,typeInfo,run_program,hi,hs,Builtin.lenOf,
  List.getElem?_toArray,List.getElem?_cons_zero,List.getElem?_cons_succ,qAw,if_false,Bool.not_false,if_true,h1,false_or,h2,h3,run_choose,Question.forced,Question.cut,World.drew_eq,run_askRoom,ho,hn,
  zeroValue,hz,hzc,yX,Nat.add_sub_cancel_left,newRow,run_newObj,World.alloc_eq,World.size_drew]
theorem Jr (g:G M C n S h β a w) {o:Oper} (hd:∀d,o.dst=some d→d < n) {args:Array Operand} {ts:Array TypeId} (ho:o.op=.call {callee:=.builtin .append,args,argTypes:=ts}) {E:List PanicEntry→PH→Prop} {k:AS→PH→AV→Prop} (hk:imA M o.op S h E k):ImOk M C n a w o E k:=by
 rw[ho] at hk
 simp only[imA] at hk
 split at hk
 ·rename_i x y T U hargs hts
  obtain rfl:args=#[x,y]:=by apply Array.ext';simpa using hargs
  obtain rfl:ts=#[T,U]:=by apply Array.ext';simpa using hts
  obtain⟨hU,hk⟩:=hk
  obtain⟨⟨z,b⟩,hz,hk⟩:=opt_iff.1 hk
  dsimp only at hk
  obtain⟨e,i,hE,hi,hb,hs,hzero,hzc,hb1⟩:=tE hz
  obtain⟨e',hE'⟩:=oA hU
  obtain⟨ad,m,c,news,hy,hl,hk,hsrc⟩:=src_run g hk
  obtain⟨hall,hk⟩:=hk
  have hexec:∀v,a.eval x=v→execOp a.eval o=(do pure (.value (←Builtin.append_ #[T,U] o.type #[v,.slice ad m c])):Sem Next):=by
   intro v hv
   subst hv
   simp[execOp,ho,resolve,invoke,builtin,hy]
  have hty:∀(t:TypeId) (vs:Array Value),Builtin.append_ #[T,U] t vs=Builtin.append_ #[T,U] T vs:=fun _ _=>rfl
  have hgrown:∀(base:Option Addr) (len cap:Nat) (old:List Value) (S':AS) (β1:Nat→Nat),a.eval x=.slice base len cap→cap < len+m→(2*(len+m)+1024)*b≤2^48→
    (∀w',G M C n S h β a w'→(Builtin.firstCells 1 len (.slice base len cap)).run M.P w'=.ok old.toArray w')→G M C n S' h β1 a w.drew→S'.bx.length=S.bx.length→
    (∀junk:List Value,k (S'.push (old ++news ++junk)) h (.s S.bx.length 0 (len+m) (len+m+junk.length)))→ImOk M C n a w o E k:=by
   intro base len cap old S' β1 hx hlt hroom hold g1 hlen hk
   have gd:=g.below (gt w)
   obtain⟨j,hj⟩:=CP hE hE' hi hs (by omega) hzero hzc hlt (by rw[hb];exact hroom) (hold _ gd) (hsrc _ gd)
   obtain⟨β',b1,b2,g'⟩:=g1.push (old ++news ++List.replicate j z) e
   refine .mk hd (v:=.slice (some ⟨w.heap.size,0,none⟩) (len+m) (len+m+j)) (x:=.s S.bx.length 0 (len+m) (len+m+(List.replicate j z).length)) ?_ (.inr ((gt w).alloc (by rw[World.size_drew];exact η _) _)) (β':=β') (S':=S'.push (old ++news ++List.replicate j z)) (w':=w.drew.alloc (.cells (old ++news ++List.replicate j z).toArray e)) g' (.inr ?_) ?_ (hk _)
   ·have hc:old.toArray ++news.toArray ++(List.replicate j z).toArray=(old ++news ++List.replicate j z).toArray:=by simp
    rw[hc] at hj
    rw[hexec _ hx]
    simp only[Sem.run_bind,hty,hj,Result.andThen_ok,Sem.run_pure,List.length_replicate]
   ·simp only[cv,←hlen,b2,World.size_drew,List.length_replicate]
   ·intro i hi;cases hi;simp[AS.push,hlen]
  split at hk
  ·rename_i hx
   obtain⟨hk0,hk1⟩:=hk
   by_cases hm:m=0
   ·have hk:=hk0 hm
    subst hm
    refine .mk hd (v:=.slice none 0 0) (x:=.v (.slice none 0 0)) (w':=w) ?_ (.inr (Below.refl _ _)) g (.inr rfl) (fun i hi=>by cases hi) hk
    rw[hexec _ (g.ev_v hx)]
    simp only[Sem.run_bind,hty]
    rw[pf hE hE' hi hs (by omega) (η _) news.toArray w (hsrc _ g) rfl]
    rfl
   ·obtain⟨hroom,hk⟩:=hk1 hm
    refine hgrown none 0 0 [] S β (g.ev_v hx) (by omega) (by simpa using hroom) (fun w' _=>by simp[Builtin.firstCells]) (g.below (gt w)) rfl (fun junk=>?_)
    have:=hk junk
    simpa using this
  ·rename_i i' off len cap hx
   obtain⟨rfl,hlc,hcap,hroom,hk⟩:=hk
   have hcls:cls o.op=2:=by
    rw[ho]
    cases x with
    |const c=>cases hx
    |_=>rfl
   have hi':i' < S.bx.length:=g.wf_ev (by rw[hx];rfl)
   have hget:S.bx[i']?=some (S.box i'):=by simp[AS.box,hi']
   by_cases hle:len+m≤cap
   ·-- there is room
    have hkj:=hk ((S.box i').drop (len+m))
    have hjl:len+m+((S.box i').drop (len+m)).length=cap:=by simp;omega
    rw[hjl] at hkj
    have hspl:(S.box i').take len ++news ++(S.box i').drop (len+m)=spl (S.box i') len news:=by
     rw[spl_eq _ _ _ (by omega),hl]
    rw[hspl] at hkj
    by_cases hne:S.box i'=[]
    ·have hc0:cap=0:=by rw[hcap,hne];rfl
     have hm0:m=0:=by omega
     subst hm0
     obtain rfl:news=[]:=List.length_eq_zero_iff.1 hl
     obtain⟨β',b1,g'⟩:=g.move hget
     refine .mk hd (v:=.slice (some ⟨β i',0,none⟩) (len+0) cap) (x:=.s S.bx.length 0 (len+0) cap) (w':=w) ?_ (.inl hcls) g' (.inr (by simp[cv,b1])) (fun q hq=>by cases hq;simp[AS.push,AS.setBox]) hkj
     rw[hexec _ (g.ev_s hx)]
     simp only[Sem.run_bind,hty]
     rw[pf hE hE' hi hs (by omega) hle #[] w (hsrc _ g) rfl]
     rfl
    ·obtain⟨T',hw⟩:=(g.boxes i' _ hget hne).row
     obtain⟨w',h1,h2,h3⟩:=jd (P:=M.P) news (S.box i') len 0 w hw (by omega) hall
     have g1:=g.setBox hget hne (cs':=spl (S.box i') len news) (by rw[sm]) (by simpa using h2) h3
     obtain⟨β',b1,g'⟩:=g1.move (i:=i') (cs:=spl (S.box i') len news) (by simp[AS.setBox,hi'])
     have hset:(S.setBox i' (spl (S.box i') len news)).setBox i' []=S.setBox i' []:=by simp[AS.setBox]
     have hlen:(S.setBox i' (spl (S.box i') len news)).bx.length=S.bx.length:=by simp[AS.setBox]
     rw[hset] at g'
     rw[hlen] at b1
     refine .mk hd (v:=.slice (some ⟨β i',0,none⟩) (len+m) cap) (x:=.s S.bx.length 0 (len+m) cap) (w':=w') ?_ (.inl hcls) g' (.inr (by simp[cv,b1])) (fun q hq=>by cases hq;simp[AS.push,AS.setBox]) hkj
     rw[hexec _ (g.ev_s hx)]
     simp only[Sem.run_bind,hty]
     rw[pf hE hE' hi hs (by omega) hle news.toArray w' (hsrc _ g) (by simpa[gF] using h1)]
     rfl
   ·refine hgrown (some ⟨β i',0,none⟩) len cap ((S.box i').take len) (S.setBox i' []) β (g.ev_s hx) (by omega) hroom (fun w' g'=>?_) ((g.below (gt w)).kill i') (by simp[AS.setBox]) hk
    simp only[Builtin.firstCells,qAz]
    have hl2:((S.box i').take len).length=len:=by simp;omega
    have:=run_loadCells_list (P:=M.P) (w:=w') ⟨β i',0,none⟩ ((S.box i').take len) (fun j v hj=>by
     rw[gF]
     refine g'.box_get hi' ?_
     rw[List.getElem?_take] at hj
     split at hj
     ·simpa using hj
     ·cases hj)
    rw[hl2] at this
    exact this
  ·exact hk.elim
 ·exact hk.elim
theorem im_copy (g:G M C n S h β a w) {o:Oper} (hd:∀d,o.dst=some d→d < n) {args:Array Operand} {ts:Array TypeId} (ho:o.op=.call {callee:=.builtin .copy,args,argTypes:=ts}) {E:List PanicEntry→PH→Prop} {k:AS→PH→AV→Prop} (hk:imA M o.op S h E k):ImOk M C n a w o E k:=by
 have hcls:cls o.op=2:=by rw[ho];rfl
 rw[ho] at hk
 simp only[imA] at hk
 split at hk
 ·rename_i x y T ts' hargs hts
  obtain rfl:args=#[x,y]:=by apply Array.ext';simpa using hargs
  obtain rfl:ts=(T :: ts').toArray:=by apply Array.ext';simpa using hts
  obtain⟨⟨z,b⟩,hz,hk⟩:=opt_iff.1 hk
  obtain⟨e,i,hE,hi,hb,hs,hzero,hzc,hb1⟩:=tE hz
  unfold copA at hk
  split at hk
  ·rename_i i' off dlen cap ad m c hx hy
   obtain⟨news,hl,hc,hall,hlt,hle,hk⟩:=hk
   have hi':i' < S.bx.length:=g.wf_ev (by rw[hx];rfl)
   have hget:S.bx[i']?=some (S.box i'):=by simp[AS.box,hi']
   have hne:S.box i'≠[]:=by intro q;rw[q] at hlt;simp at hlt
   have hsrc:(Builtin.firstCells 1 (min m dlen) (.slice ad m c)).run M.P w=.ok news.toArray w:=by
    by_cases hm:min m dlen=0
    ·rw[hm] at hl
     obtain rfl:news=[]:=List.length_eq_zero_iff.1 hl
     rw[hm]
     cases ad<;>simp[Builtin.firstCells,loadCells,loadCellsFrom]
    ·obtain⟨ad',rfl,hc'⟩:=hc (by omega)
     simp only[Builtin.firstCells,qAz]
     rw[←hl]
     exact run_loadCells_list _ _ news (fun j v hj=>g.fine.has.cell (hc' j v hj))
   obtain⟨T',hw⟩:=(g.boxes i' _ hget hne).row
   obtain⟨w',h1,h2,h3⟩:=jd (P:=M.P) news (S.box i') off 0 w hw (by omega) hall
   have g1:=g.setBox hget hne (cs':=spl (S.box i') off news) (by rw[sm]) (by simpa using h2) h3
   refine .mk hd (v:=.int .i64 (min m dlen:Nat)) (x:=.v (.int .i64 (min m dlen:Nat))) (w':=w') ?_ (.inl hcls) g1 (.inr rfl) (fun q hq=>by cases hq) hk
   simp only[execOp,ho,resolve,invoke,builtin,List.map_toArray,List.map_cons,List.map_nil,g.ev_s hx,g.ev_v hy,Sem.run_bind,Sem.run_pure,Result.andThen_ok,Builtin.copy_,
    List.getElem?_toArray,List.getElem?_cons_zero,List.getElem?_cons_succ,run_underlying hE,Builtin.lenOf,sizeOf,typeInfo,run_program,hi,hs,Nat.min_def]
   have hmin:(if m≤dlen then m else dlen)=min m dlen:=(Nat.min_def ..).symm
   rw[hmin,hsrc]
   simp only[Result.andThen_ok,Sem.run_bind,h1,Sem.run_pure,goInt]
  ·exact hk.elim
 ·exact hk.elim
theorem Dj (g:G M C n S h β a w) {o:Oper} (hd:∀d,o.dst=some d→d < n) {E:List PanicEntry→PH→Prop} {k:AS→PH→AV→Prop} (hk:imA M o.op S h E k):ImOk M C n a w o E k:=by
 cases ho:o.op with
 |alloc T=>exact im_alloc g hd ho hk
 |box T x=>exact im_box g hd ho hk
 |store T x y=>exact im_store g hd ho hk
 |makeSlice T l c=>exact Bf g hd ho hk
 |buildSlice T len parts=>exact yU g hd ho hk
 |panic x=>exact im_panic g ho hk
 | call c=>
  obtain⟨callee,args,ts⟩:=c
  cases callee with
  |value f=>exact im_call g hd ho hk
  | builtin b=>
   cases b<;>first
    |exact Jr g hd ho hk
    |exact im_copy g hd ho hk
    |(rw[ho] at hk;exact hk.elim)
  |_=>rw[ho] at hk;exact hk.elim
 |_=>rw[ho] at hk;exact hk.elim
end
open Go.RowKit (Below)
structure GOp where
 dst:Option Nat
 op:Op
 guard:Option (Nat×Bool)
inductive PL where
 |o (i:Nat)
 |p (i:Nat)
inductive GX where
 |o (g:GOp)
 |p (i:Nat)
def nth:List Oper→Nat→Option Oper
 |[],_=>none
 |x :: _,0=>some x
 |_ :: l,i+1=>nth l i
theorem Fy:∀(l:List Oper) (i:Nat),nth l i=l[i]?
 |[],i=>by simp[nth]
 |x :: l,0=>by simp[nth]
 |x :: l,i+1=>by simp[nth,Fy l i]
theorem Bp (ops:Array Oper) (i:Nat):nth ops.toList i=ops[i]?:=by rw[Fy];simp
def gOf (ops:Array Oper) (o:Oper):Option (Option (Nat×Bool)):=match o.guard with
 |none=>some none
 | some (j,want)=>match (nth ops.toList j).bind (·.dst) with
  |some t=>some (some (t,want))
  |none=>none
def prep (n:Nat) (ops:Array Oper):List PL→Option (List GX)
 |[]=>some []
 | .p i :: c=>match prep n ops c with
  |some l=>some (.p i :: l)
  |none=>none
 | .o i :: c=>match nth ops.toList i with
  | some o=>match gOf ops o with
   | some g=>bif o.dst.all (Nat.blt · n) then (match prep n ops c with
    |some l=>some (.o ⟨o.dst,o.op,g⟩ :: l)
    |none=>none) else none
   |none=>none
  |none=>none
def order:List PL→List Nat
 |[]=>[]
 |.p _ :: c=>order c
 |.o i :: c=>i :: order c
def plain (n:Nat):List PL:=(List.range n).map .o
@[go_sem] def pubV (i b:Nat):AV→AV
 |.p j off=>bif j == i then .v (.pointer (some ⟨b,off,none⟩)) else .p j off
 |.s j off len cap=>bif j == i then .v (.slice (some ⟨b,off,none⟩) len cap) else .s j off len cap
 |x=>x
@[go_sem] def pubL (i b:Nat):List (Nat×AV)→List (Nat×AV)
 |[]=>[]
 |(k,x) :: l=>(k,pubV i b x) :: pubL i b l
@[go_sem] def AS.pub (S:AS) (i b:Nat):AS:=⟨pubL i b S.sl,S.bx.set i []⟩
@[go_sem] def pubA (S:AS) (h:PH) (i:Nat) (k:AS→PH→Prop):Prop:=
 i < S.bx.length∧∀b h',Step h h'→(S.box i≠[]→h' b=some (S.box i).toArray)→k (S.pub i b) h'
@[go_sem] def step1 (M:Mach) (E:List PanicEntry→PH→Prop) (g:GOp) (K:AS→PH→Prop) (S:AS) (h:PH):Prop:=
 bif cls g.op == 0 then rdA M g.op S h (fun x=>K (S.put g.dst x) h) else imA M g.op S h E (fun S' h' x=>K (S'.put g.dst x) h')
def walk (M:Mach) (E:List PanicEntry→PH→Prop):List GX→(AS→PH→Prop)→AS→PH→Prop
 |[],K,S,h=>K S h
 |.p i :: l,K,S,h=>pubA S h i (walk M E l K)
 | .o g :: l,K,S,h=>match g.guard with
  |none=>step1 M E g (walk M E l K) S h
  | some (t,want)=>match lk S.sl t with
   |.v (.bool b)=>(b=want→step1 M E g (walk M E l K) S h)∧(b=(!want)→walk M E l K (S.put g.dst (.v undef)) h)
   |.v (.tuple _)=>walk M E l K (S.put g.dst (.v undef)) h
   |_=>False
theorem wk {M:Mach} {E:List PanicEntry→PH→Prop} {d:Option Nat} {op:Op} {l:List GX} {K:AS→PH→Prop} {S:AS} {h:PH}
  (hk:∀k:AS→PH→Prop,(∀S h,walk M E l K S h→k S h)→step1 M E ⟨d,op,none⟩ k S h):walk M E (.o ⟨d,op,none⟩ :: l) K S h:=hk _ fun _ _ h=>h
theorem wkb {M:Mach} {E:List PanicEntry→PH→Prop} {d:Option Nat} {op:Op} {t:Nat} {want b:Bool} {l:List GX} {K:AS→PH→Prop} {S:AS} {h:PH} (hb:lk S.sl t=.v (.bool b))
  (hk:b=want→∀k:AS→PH→Prop,(∀S h,walk M E l K S h→k S h)→step1 M E ⟨d,op,none⟩ k S h) (hn:b=(!want)→walk M E l K (S.put d (.v undef)) h):walk M E (.o ⟨d,op,some (t,want)⟩ :: l) K S h:=by
 simp only[walk,hb]
 exact⟨fun e=>hk e _ fun _ _ h=>h,hn⟩
theorem wkt {M:Mach} {E:List PanicEntry→PH→Prop} {d:Option Nat} {op:Op} {t:Nat} {want:Bool} {vs:Array Value} {l:List GX} {K:AS→PH→Prop} {S:AS} {h:PH} (hb:lk S.sl t=.v (.tuple vs))
  (hn:walk M E l K (S.put d (.v undef)) h):walk M E (.o ⟨d,op,some (t,want)⟩ :: l) K S h:=by
 simp only[walk,hb]
 exact hn
theorem wkT {M:Mach} {E:List PanicEntry→PH→Prop} {d:Option Nat} {op:Op} {t:Nat} {want:Bool} {l:List GX} {K:AS→PH→Prop} {S:AS} {h:PH} (hb:lk S.sl t=.v (.bool want))
  (hk:∀k:AS→PH→Prop,(∀S h,walk M E l K S h→k S h)→step1 M E ⟨d,op,none⟩ k S h):walk M E (.o ⟨d,op,some (t,want)⟩ :: l) K S h:=
 wkb hb (fun _=>hk) (fun e=>by cases want<;>cases e)
theorem wkF {M:Mach} {E:List PanicEntry→PH→Prop} {d:Option Nat} {op:Op} {t:Nat} {want:Bool} {l:List GX} {K:AS→PH→Prop} {S:AS} {h:PH} (hb:lk S.sl t=.v (.bool (!want)))
  (hn:walk M E l K (S.put d (.v undef)) h):walk M E (.o ⟨d,op,some (t,want)⟩ :: l) K S h:=
 wkb hb (fun e=>by cases want<;>cases e) (fun _=>hn)
theorem wkG {M:Mach} {E:List PanicEntry→PH→Prop} {d:Option Nat} {op:Op} {t:Nat} {want:Bool} {l:List GX} {K:AS→PH→Prop} {S:AS} {h:PH} (hb:lk S.sl t=.v (.bool (!want)))
  (hk:∀k:AS→PH→Prop,(∀S h,walk M E l K S h→k S h)→k (S.put d (.v undef)) h):walk M E (.o ⟨d,op,some (t,want)⟩ :: l) K S h:=
 wkF hb (hk _ fun _ _ h=>h)
theorem wk0 {M:Mach} {E:List PanicEntry→PH→Prop} {K:AS→PH→Prop} {S:AS} {h:PH} (hk:K S h):walk M E [] K S h:=hk
theorem wkp {M:Mach} {E:List PanicEntry→PH→Prop} {i:Nat} {l:List GX} {K:AS→PH→Prop} {S:AS} {h:PH} (hk:pubA S h i (walk M E l K)):walk M E (.p i :: l) K S h:=hk
def LQ (M:Mach) (n:Nat) (C:Ctx) (Q:Exit→AS→PH→Prop) (E:List PanicEntry→PH→Prop):Exit→Act→World→Prop
 |.panic ch,a,w=>a.defers=C.df∧∃h',Fine M C h' w∧E ch h'
 |.outgrown,_,_=>False
 |e,a,w=>∃S h β,G M C n S h β a w∧Q e S h
def AWP (M:Mach) (n:Nat) (C:Ctx) (c:Code) (Q:Exit→AS→PH→Prop) (E:List PanicEntry→PH→Prop) (S:AS) (h:PH):Prop:=
 ∀β a w,G M C n S h β a w→c.wp M.P (LQ M n C Q E) a w
@[go_sem] def qs (next:AS→PH→Prop) (Q:Exit→AS→PH→Prop):Exit→AS→PH→Prop
 |.normal=>next
 |e=>Q e
@[go_sem] def qb (id:Nat) (Q:Exit→AS→PH→Prop):Exit→AS→PH→Prop
 |.exit k=>if k=id then Q .normal else Q (.exit k)
 |e=>Q e
section
variable {M:Mach} {C:Ctx} {n:Nat} {S:AS} {h:PH} {β:Nat→Nat} {a:Act} {w:World} {Q:Exit→AS→PH→Prop} {E:List PanicEntry→PH→Prop}
theorem lk_pub (i b:Nat) (l:List (Nat×AV)) (t:Nat):lk (pubL i b l) t=pubV i b (lk l t):=by
 induction l with
 |nil=>rfl
 | cons y l ih=>
  obtain⟨k,x⟩:=y
  simp only[pubL,lk]
  cases(k == t) with
  |true=>rfl
  |false=>exact ih
theorem G.pub (g:G M C n S h β a w) {i:Nat} (hi:i < S.bx.length):
    ∃h',Sub h h'∧(S.box i≠[]→h' (β i)=some (S.box i).toArray)∧G M C n (S.pub i (β i)) h' β a w:=by
  have hget:S.bx[i]?=some (S.box i):=by simp[AS.box,hi]
  have hslots : ∀ (h':PH),∀t,Conc β (lk (S.pub i (β i)).sl t) (a.tmps.getD t undef):=fun _ t=>by
    simp only[AS.pub,lk_pub]
    rcases g.slots t with hs |hs
    · rw[hs];exact .inl rfl
    · refine .inr ?_
      rw[hs]
      cases hx:lk S.sl t with
      |top=>rfl
      |v x=>rfl
      | p j off=>
        simp only[pubV]
        cases hj:(j == i) with
        | true => obtain rfl:j=i:=by simpa using hj
                  rfl
        |false=>rfl
      | s j off len cap=>
        simp only[pubV]
        cases hj:(j == i) with
        | true => obtain rfl:j=i:=by simpa using hj
                  rfl
        |false=>rfl
  have hwf:∀t q,(lk (S.pub i (β i)).sl t).ix=some q→q < (S.pub i (β i)).bx.length:=fun t q hq=>by
    simp only[AS.pub,lk_pub,List.length_set] at hq ⊢
    refine g.wf t q ?_
    cases hx:lk S.sl t with
    |top=>rw[hx] at hq;exact hq
    |v x=>rw[hx] at hq;exact hq
    |p j off=>rw[hx] at hq;simp only[pubV] at hq;cases hj:(j == i)<;>rw[hj] at hq<;>first |exact hq |cases hq
    |s j off len cap=>rw[hx] at hq;simp only[pubV] at hq;cases hj:(j == i)<;>rw[hj] at hq<;>first |exact hq |cases hq
  have gk:=g.kill i
  by_cases hne:S.box i=[]
  · exact⟨h,Sub.refl h,fun hx=>(hx hne).elim,gk.size,gk.defers,gk.fine,gk.boxes,gk.inj,hslots h,hwf,gk.pin⟩
  · have hb:=g.boxes i _ hget hne
    obtain⟨T,hw⟩:=hb.row
    refine⟨fun b=>if b=β i then some (S.box i).toArray else h b,fun b cs hx=>?_,fun _=>by simp,gk.size,gk.defers,⟨gk.fine.below,fun b cs hx=>?_,?_,fun b hx=>?_,?_⟩,fun j cj hj hn=>?_,gk.inj,hslots h,hwf,gk.pin⟩
    · have:b≠β i:=fun e=>by rw[e,hb.own] at hx;cases hx
      simp only[if_neg this];exact hx
    · by_cases hbi:b=β i
      · subst hbi
        simp only[if_true,Option.some.injEq] at hx
        subst hx
        exact⟨T,(0,0),hw⟩
      · simp only[if_neg hbi] at hx;exact g.fine.has b cs hx
    · intro b cs hx
      have hx':=g.fine.sub b cs hx
      have:b≠β i:=fun e=>by rw[e,hb.own] at hx';cases hx'
      simp only[if_neg this];exact hx'
    · by_cases hbi:b=β i
      · subst hbi;exact .inr hb.old
      · simp only[if_neg hbi] at hx;exact g.fine.new b hx
    · intro b cs hx
      have hx':=g.fine.gl b cs hx
      have:b≠β i:=fun e=>by rw[e,hb.own] at hx';cases hx'
      simp only[if_neg this];exact hx'
    · have hj':S.bx[j]?=some cj∧j≠i:=by
        simp only[AS.pub] at hj
        by_cases hji:j=i
        · subst hji;rw[List.getElem?_set_self hi] at hj;exact(hn (Option.some.inj hj).symm).elim
        · rw[List.getElem?_set_ne (Ne.symm hji)] at hj;exact⟨hj,hji⟩
      have hbj:=g.boxes j cj hj'.1 hn
      have:β j≠β i:=fun e=>hj'.2 (g.inj j i _ _ hj'.1 hget hn hne e)
      exact⟨hbj.row,hbj.old,by simp only[if_neg this];exact hbj.own⟩
theorem sJ (c:List PanicEntry) (a:Act) (d:Option Tmp) (v:Value) (w:World) (hq:LQ M n C Q E (.panic c) (Act.put a d v) w):LQ M n C Q E (.panic c) a w:=by
 cases d<;>exact hq
theorem nI {ops:Array Oper} {o:Oper} (hg:o.guard=none) (tmps:Array Value):Region.wanted o (yielded ops tmps)=true:=by
 simp[Region.wanted,hg]
theorem gOf_some {ops:Array Oper} {o:Oper} {t:Nat} {want:Bool} (hg:gOf ops o=some (some (t,want))):∃j,o.guard=some (j,want)∧(ops[j]?).bind (·.dst)=some t:=by
 unfold gOf at hg
 split at hg
 ·cases hg
 ·rename_i j want' hgd
  split at hg
  ·rename_i t' ht
   cases hg
   exact⟨j,hgd,by rw[←Bp];exact ht⟩
  ·cases hg
theorem gOf_none {ops:Array Oper} {o:Oper} (hg:gOf ops o=some none):o.guard=none:=by
 unfold gOf at hg
 split at hg
 ·assumption
 ·split at hg<;>cases hg
theorem Ee (g:G M C n S h β a w) {ops:Array Oper} {o:Oper} {j t:Nat} {want b:Bool} (hg:o.guard=some (j,want)) (ht:(ops[j]?).bind (·.dst)=some t) (hs:lk S.sl t=.v (.bool b)):
  Region.wanted o (yielded ops a.tmps)=(b == want):=by
 have hv:a.tmps.getD t undef=.bool b:=by rcases g.slots t with h |h<;>rw[hs] at h<;>first |cases h |exact h
 have hlt:t < a.tmps.size:=by
  rcases qBj t a.tmps.size with h |h
  ·exact h
  ·rw[Array.getD_eq_getD_getElem?,Array.getElem?_eq_none h] at hv;cases hv
 have hv':a.tmps[t]?=some (.bool b):=by
  rw[Array.getElem?_eq_getElem hlt]
  congr 1
  simpa[hlt] using hv
 simp only[Region.wanted,hg,yielded,ht,Option.bind_some,hv']
 cases b<;>cases want<;>rfl
theorem B7 (g:G M C n S h β a w) {ops:Array Oper} {o:Oper} {j t:Nat} {want:Bool} {vs:Array Value} (hg:o.guard=some (j,want)) (ht:(ops[j]?).bind (·.dst)=some t) (hs:lk S.sl t=.v (.tuple vs)):
  Region.wanted o (yielded ops a.tmps)=false:=by
 have hv:a.tmps.getD t undef=.tuple vs:=by rcases g.slots t with h |h<;>rw[hs] at h<;>first |cases h |exact h
 simp only[Region.wanted,hg,yielded,ht,Option.bind_some]
 cases hx:a.tmps[t]? with
 |none=>rfl
 | some u=>
  have:u=.tuple vs:=by simpa[Array.getD_eq_getD_getElem?,hx] using hv
  subst this
  rfl
theorem fx {ops : Array Oper}:∀(pl:List PL) (l:List GX) (S:AS) (h:PH) (β:Nat→Nat) (a:Act) (w:World),prep n ops pl=some l→walk M E l (fun S h=>Q .normal S h) S h→G M C n S h β a w→
  RWc M.P ops (LQ M n C Q E) (order pl) a w:=by
 intro pl
 induction pl with
 |nil=>intro l S h β a w hl hw g;cases hl;exact⟨S,h,β,g,hw⟩
 | cons x pl ih=>
  intro l S h β a w hl hw g
  cases x with
  | p i=>
   simp only[prep] at hl
   cases hp:prep n ops pl with
   |none=>rw[hp] at hl;cases hl
   | some l'=>
    rw[hp] at hl;cases hl
    simp only[walk,pubA] at hw
    obtain⟨h',hs,hc,g'⟩:=g.pub hw.1
    exact ih l' _ _ β a w hp (hw.2 (β i) h' ⟨hs⟩ hc) g'
  | o i =>
   simp only[prep,Bp] at hl
   cases ho:ops[i]? with
   |none=>rw[ho] at hl;cases hl
   | some o=>
    rw[ho] at hl
    dsimp only at hl
    cases hg:gOf ops o with
    |none=>rw[hg] at hl;cases hl
    | some gd =>
     rw[hg] at hl
     dsimp only at hl
     cases hd:(o.dst.all (Nat.blt · n)) with
     |false=>rw[hd] at hl;cases hl
     | true=>
      rw[hd] at hl
      cases hp:prep n ops pl with
      |none=>rw[hp] at hl;cases hl
      | some l'=>
       rw[hp] at hl;cases hl
       have hdst:∀k,o.dst=some k→k < n:=fun k hk=>by rw[hk] at hd;simpa[Nat.blt_eq] using hd
       have hstep:step1 M E ⟨o.dst,o.op,gd⟩ (walk M E l' fun S h=>Q .normal S h) S h→Region.wanted o (yielded ops a.tmps)=true→RWc M.P ops (LQ M n C Q E) (i :: order pl) a w:=by
        intro hst hwant
        simp only[step1] at hst
        by_cases hc:cls o.op=0
        ·have hcb:(cls o.op == 0)=true:=by simpa using hc
         rw[hcb,cond_true] at hst
         rw[fE ho hc]
         obtain⟨v,x,hr,hx,hix,hk⟩:=yq (o:=o) g hst
         exact⟨v,.inl ⟨hwant,fun w' hb=>hr w' (g.below hb)⟩,ih l' _ _ β _ w hp hk (g.put hdst hx hix)⟩
        ·have hcb:(cls o.op == 0)=false:=by simpa using hc
         rw[hcb,cond_false] at hst
         rw[jP ho hc,if_pos hwant]
         have:=Dj (o:=o) g hdst hst (LQ M n C Q E) (fun ch h' w' hf he=>⟨g.defers,h',hf,he⟩)
         exact nf (fun a' w' ⟨h1,S',h',x,β',g',hk⟩=>⟨h1,ih l' _ _ β' a' w' hp hk g'⟩) this
       have hskip:walk M E l' (fun S h=>Q .normal S h) (S.put o.dst (.v undef)) h→Region.wanted o (yielded ops a.tmps)=false→RWc M.P ops (LQ M n C Q E) (i :: order pl) a w:=by
        intro hst hwant
        have hn:¬Region.wanted o (yielded ops a.tmps)=true:=by rw[hwant];simp
        simp only[RWc,ho,if_neg hn]
        exact ih l' _ _ β _ w hp hst (g.put hdst (.inr rfl) (fun i hi=>by cases hi))
       simp only[walk] at hw
       cases gd with
       |none=>exact hstep hw (nI (gOf_none hg) _)
       | some tw=>
        obtain⟨t,want⟩:=tw
        obtain⟨j,hj1,hj2⟩:=gOf_some hg
        dsimp only at hw
        split at hw
        ·rename_i b hb
         have hwb:=Ee g hj1 hj2 hb
         by_cases hbw:b=want
         ·exact hstep (hw.1 hbw) (by rw[hwb];simpa using hbw)
         ·exact hskip (hw.2 (by cases b<;>cases want<;>simp_all)) (by rw[hwb];simpa using hbw)
        ·rename_i vs hb
         exact hskip hw (B7 g hj1 hj2 hb)
        ·exact hw.elim
theorem nG (n:Nat):order (plain n)=List.range n:=by
 unfold plain
 induction List.range n with
 |nil=>rfl
 |cons x l ih=>simp[order,ih]
theorem AWP_s {id:Nat} {ops:Array Oper} {l:List GX} (hl:prep n ops (plain ops.size)=some l) (hw:walk M E l (fun S h=>Q .normal S h) S h):AWP M n C (.region id ops false) Q E S h:=
 fun β a w g=>eK (by rw[←nG];exact fx _ l S h β a w hl hw g)
theorem Ek {id:Nat} {ops:Array Oper} {l:List GX} (pl:List PL) (ho:order pl=List.range ops.size) (hl:prep n ops pl=some l) (hw:walk M E l (fun S h=>Q .normal S h) S h):AWP M n C (.region id ops false) Q E S h:=
 fun β a w g=>eK (by rw[←ho];exact fx _ l S h β a w hl hw g)
theorem AWP_d {id:Nat} {ops:Array Oper} {l:List GX} (pl:List PL) (hc:fi ops (order pl)=true) (hl:prep n ops pl=some l) (hw:walk M E l (fun S h=>Q .normal S h) S h):AWP M n C (.region id ops true) Q E S h:=
 fun β a w g=>Eh M.mixed (order pl) hc (fun c a d v w=>sJ c a d v w) (fx pl l S h β a _ hl hw (g.below (gt w)))
theorem oG {x y:Code} (hx:AWP M n C x (qs (fun S h=>AWP M n C y Q E S h) Q) E S h):AWP M n C (.seq x y) Q E S h:=
 fun β a w g=>wp_seq (wp_mono (hx β a w g) fun e a' w' hq=>by
  cases e with
  |normal=>obtain⟨S',h',β',g',hk⟩:=hq;exact hk β' a' w' g'
  |_=>exact hq)
theorem uf {id:Nat} {ops:Array Oper} {l:List GX} {y:Code} (hl:prep n ops (plain ops.size)=some l) (hw:∀K:AS→PH→Prop,(∀S h,AWP M n C y Q E S h→K S h)→walk M E l K S h):AWP M n C (.seq (.region id ops false) y) Q E S h:=
 oG (AWP_s hl (hw _ fun _ _ h=>h))
theorem fk {id:Nat} {ops:Array Oper} {l:List GX} {y:Code} (pl:List PL) (ho:order pl=List.range ops.size) (hl:prep n ops pl=some l) (hw:∀K:AS→PH→Prop,(∀S h,AWP M n C y Q E S h→K S h)→walk M E l K S h):AWP M n C (.seq (.region id ops false) y) Q E S h:=
 oG (Ek pl ho hl (hw _ fun _ _ h=>h))
theorem Ej {id:Nat} {ops:Array Oper} {l:List GX} {y:Code} (pl:List PL) (hc:fi ops (order pl)=true) (hl:prep n ops pl=some l) (hw:∀K:AS→PH→Prop,(∀S h,AWP M n C y Q E S h→K S h)→walk M E l K S h):AWP M n C (.seq (.region id ops true) y) Q E S h:=
 oG (AWP_d pl hc hl (hw _ fun _ _ h=>h))
theorem pC {x y:Code} (hx:∀K:AS→PH→Prop,(∀S h,AWP M n C y Q E S h→K S h)→AWP M n C x (qs K Q) E S h):AWP M n C (.seq x y) Q E S h:=
 oG (hx _ fun _ _ h=>h)
theorem oJ {u v y:Code} (hx:∀K:AS→PH→Prop,(∀S h,AWP M n C y Q E S h→K S h)→AWP M n C (.seq u v) (qs K Q) E S h):AWP M n C (.seq (.seq u v) y) Q E S h:=pC hx
theorem ug {id:Nat} {ops:Array Oper} {l:List GX} (hl:prep n ops (plain ops.size)=some l) (hw:walk M E l (Q .normal) S h):AWP M n C (.region id ops false) Q E S h:=AWP_s hl hw
theorem AWP_dk {id:Nat} {ops:Array Oper} {l:List GX} (pl:List PL) (hc:fi ops (order pl)=true) (hl:prep n ops pl=some l) (hw:walk M E l (Q .normal) S h):AWP M n C (.region id ops true) Q E S h:=AWP_d pl hc hl hw
theorem mP {c:Operand} {x y:Code} {t:Bool} (hc:S.ev c=.v (.bool t)) (h1:t=true→AWP M n C x Q E S h) (h2:t=false→AWP M n C y Q E S h):AWP M n C (.cond c x y) Q E S h:=
 fun β a w g=>wp_cond_split (g.ev_v hc) (fun ht=>h1 ht β a w g) (fun ht=>h2 ht β a w g)
theorem mE {c:Operand} {x y:Code} (hc:S.ev c=.v (.bool true)) (h1:AWP M n C x Q E S h):AWP M n C (.cond c x y) Q E S h:=mP hc (fun _=>h1) (fun e=>by cases e)
theorem je {c:Operand} {x y:Code} (hc:S.ev c=.v (.bool false)) (h1:AWP M n C y Q E S h):AWP M n C (.cond c x y) Q E S h:=mP hc (fun e=>by cases e) (fun _=>h1)
theorem ue {id:Nat} {x:Code} (hx:AWP M n C x (qb id Q) E S h):AWP M n C (.block id x) Q E S h:=
 fun β a w g=>wp_block (wp_mono (hx β a w g) fun e a' w' hq=>by
  cases e with
  | exit k=>
   obtain⟨S',h',β',g',hk⟩:=hq
   simp only[qb] at hk
   simp only[Exit.inBlock]
   split
   ·rename_i hki;rw[if_pos hki] at hk;exact⟨S',h',β',g',hk⟩
   ·rename_i hki;rw[if_neg hki] at hk;exact⟨S',h',β',g',hk⟩
  |_=>exact hq)
theorem ae {id:Nat} (hq:Q (.exit id) S h):AWP M n C (.exit id) Q E S h:=fun β _ _ g=>wp_exit ⟨S,h,β,g,hq⟩
theorem ai (hq:Q .ret S h):AWP M n C .ret Q E S h:=fun β _ _ g=>wp_ret ⟨S,h,β,g,hq⟩
theorem ac (hq:Q .normal S h):AWP M n C .skip Q E S h:=fun β _ _ g=>wp_skip ⟨S,h,β,g,hq⟩
theorem mp {c:Code} (i:Nat) (hk:pubA S h i (fun S h=>AWP M n C c Q E S h)):AWP M n C c Q E S h:=fun β a w g=>by
 obtain⟨h',hs,hc,g'⟩:=g.pub hk.1
 exact hk.2 (β i) h' ⟨hs⟩ hc β a w g'
theorem AWP_gl {c:Code} (hk:Sub M.gl h→AWP M n C c Q E S h):AWP M n C c Q E S h:=fun β a w g=>hk g.fine.gl β a w g
@[go_sem] def leL (S:AS):List (Nat×AV)→Prop
 |[]=>True
 |(t,x) :: l=>lk S.sl t=x∧leL S l
@[go_sem] def leB:List (List Value)→List (List Value)→Prop
 |[],_=>True
 |cs :: r,ds :: r'=>(cs=[]∨ds=cs)∧leB r r'
 |_ :: _,[]=>False
@[go_sem] def wfL (m:Nat):List (Nat×AV)→Bool
 |[]=>true
 |(_,x) :: l=>(match x with |.p i _=>Nat.blt i m |.s i _ _ _=>Nat.blt i m |_=>true) && wfL m l
@[go_sem] def AS.le (S S':AS):Prop:=leL S S'.sl∧leB S'.bx S.bx∧wfL S'.bx.length S'.sl=true
theorem leL_lk {S:AS}:∀{l:List (Nat×AV)},leL S l→∀t,lk l t=.top∨lk l t=lk S.sl t
  |[],_,_=>.inl rfl
  | (k, x) :: l,hl,t=>by
    simp only[leL] at hl
    simp only[lk]
    cases hk:(k == t) with
    | true => obtain rfl:k=t:=by simpa using hk
              exact .inr hl.1.symm
    |false=>exact leL_lk hl.2 t
theorem Bh:∀{b b':List (List Value)},leB b b'→b.length≤b'.length∧∀(i:Nat) (cs:List Value),b[i]?=some cs→cs≠[]→b'[i]?=some cs
 |[],_,_=>⟨by simp,fun i cs hi=>by simp at hi⟩
 | cs :: r,ds :: r',hl=>by
  simp only[leB] at hl
  have ih:=Bh hl.2
  refine⟨by simp;exact ih.1,fun i c hi hn=>?_⟩
  cases i with
  |zero=>simp at hi ⊢;subst hi;exact hl.1.resolve_left hn
  |succ i=>simp at hi ⊢;exact ih.2 i c hi hn
 |_ :: _,[],hl=>(hl:False).elim
theorem Ge {m:Nat}:∀{l:List (Nat×AV)},wfL m l=true→∀t i,(lk l t).ix=some i→i < m
 |[],_,t,i,hi=>by cases hi
 | (k,x) :: l,hl,t,i,hi=>by
  simp only[wfL,φ] at hl
  simp only[lk] at hi
  cases hk:(k == t) with
  | true=>
   rw[hk] at hi
   have h1:=hl.1
   cases x with
   |p j off=>simp only[cond_true,AV.ix,Option.some.injEq] at hi;subst hi;simpa[Nat.blt_eq] using h1
   |s j off len cap=>simp only[cond_true,AV.ix,Option.some.injEq] at hi;subst hi;simpa[Nat.blt_eq] using h1
   |v x=>cases hi
   |top=>cases hi
  |false=>rw[hk] at hi;exact Ge hl.2 t i hi
theorem G.weaken (g:G M C n S h β a w) {S':AS} (hle:S.le S') (hp:C.pin.length≤S'.bx.length):G M C n S' h β a w:=by
 obtain⟨h1,h2,h3⟩:=hle
 have hb:=Bh h2
 refine⟨g.size,g.defers,g.fine,fun i cs hi hc=>g.boxes i cs (hb.2 i cs hi hc) hc,fun i j ci cj hi hj hci hcj=>g.inj i j ci cj (hb.2 i ci hi hci) (hb.2 j cj hj hcj) hci hcj,fun t=>?_,Ge h3,hp,g.pin.2⟩
 rcases leL_lk h1 t with hx |hx
 ·exact .inl hx
 ·rw[hx];exact g.slots t
theorem NoPin.le [NoPin C] (l:List (List Value)):C.pin.length≤l.length:=by rw[NoPin.nil];exact qBh _
theorem fq [NoPin C] {c:Code} (S':AS) (hle:S.le S') (hk:AWP M n C c Q E S' h):AWP M n C c Q E S h:=fun β a w g=>hk β a w (g.weaken hle (NoPin.le _))
theorem Gg {c:Code} (S':AS) (hp:C.pin.length≤S'.bx.length) (hle:S.le S') (hk:AWP M n C c Q E S' h):AWP M n C c Q E S h:=fun β a w g=>hk β a w (g.weaken hle hp)
theorem AWP_mono {c:Code} {Q':Exit→AS→PH→Prop} (hk:AWP M n C c Q E S h) (hq:∀e S h,Q e S h→Q' e S h):AWP M n C c Q' E S h:=fun β a w g=>
 wp_mono (hk β a w g) fun e a' w' hx=>by
  cases e with
  |panic ch=>exact hx
  |outgrown=>exact hx
  |_=>obtain⟨S',h',β',g',hx⟩:=hx;exact⟨S',h',β',g',hq _ _ _ hx⟩
theorem mF {ι:Type} {c:Code} (St:ι→AS) (Inv:ι→PH→Prop) (m:ι→Nat) (x0:ι) (hp:∀x,C.pin.length≤(St x).bx.length) (hS:S.le (St x0)) (h0:Inv x0 h)
  (round:∀x h,Inv x h→AWP M n C c (qs (fun S' h'=>∃y,S'.le (St y)∧Inv y h'∧m y < m x) Q) E (St x) h):AWP M n C (.loop c) Q E S h:=fun β a w g=>by
 refine wp_loop_ghost (fun k a w=>∃x h β,m x=k∧Inv x h∧G M C n (St x) h β a w) (m x0) ⟨x0,h,β,rfl,h0,g.weaken hS (hp _)⟩ ?_
 rintro k a w ⟨x,h,β,rfl,hi,g⟩
 refine wp_mono (round x h hi β a w g) fun e a' w' hq=>?_
 cases e with
 | normal=>
  obtain⟨S',h',β',g',y,hle,hy,hlt⟩:=hq
  exact⟨m y,hlt,y,h',β',rfl,hy,g'.weaken hle (hp _)⟩
 |_=>exact hq
theorem cg [NoPin C] {ι:Type} {c:Code} (St:ι→AS) (Inv:ι→PH→Prop) (m:ι→Nat) (x0:ι) (hS:S.le (St x0)) (h0:Inv x0 h)
  (round:∀x h,Inv x h→AWP M n C c (qs (fun S' h'=>∃y,S'.le (St y)∧Inv y h'∧m y < m x) Q) E (St x) h):AWP M n C (.loop c) Q E S h:=
 mF St Inv m x0 (fun _=>NoPin.le _) hS h0 round
@[go_sem] def res1 (P:Program) (S:AS):ResultVar→Option Value
 | .tmp t=>match lk S.sl t with
  |.v x=>some x
  |_=>none
 | .cell t T=>match lk S.sl t,tk P T with
  |.p i off,some k=>ldb k (S.box i) off
  |_,_=>none
@[go_sem] def resL (P:Program) (S:AS):List ResultVar→Option (List Value)
 |[]=>some []
 | r :: rs=>match res1 P S r,resL P S rs with
  |some v,some vs=>some (v :: vs)
  |_,_=>none
@[go_sem] def resA (P:Program) (S:AS) (rs:List ResultVar):Option Value:=match resL P S rs with
 |some [v]=>some v
 |some vs=>some (.tuple vs.toArray)
 |none=>none
@[go_sem] def rq (P:Program) (rs:List ResultVar) (R:Value→PH→Prop):Exit→AS→PH→Prop
 |.normal,S,h=>opt (resA P S rs) fun v=>R v h
 |.ret,S,h=>opt (resA P S rs) fun v=>R v h
 |_,_,_=>False
def rv (tmps:Array Value):ResultVar→Sem Value
 |.tmp t=>pure (tmps.getD t undef)
 |.cell x t=>do loadVar t (←asAddr (tmps.getD x undef))
theorem res_run1 (g:G M C n S h β a w) {r:ResultVar} {v:Value} (hr:res1 M.P S r=some v):(rv a.tmps r).run M.P w=.ok v w:=by
 cases r with
 | tmp t=>
  simp only[res1] at hr
  split at hr
  ·rename_i x hx
   cases hr
   rcases g.slots t with hs |hs<;>rw[hx] at hs
   ·cases hs
   ·simp only[rv,hs,cv,Sem.run_pure]
  ·cases hr
 | cell t T=>
  simp only[res1] at hr
  split at hr
  ·rename_i i off k hx hk
   have hi:i < S.bx.length:=g.wf t i (by rw[hx];rfl)
   rcases g.slots t with hs |hs<;>rw[hx] at hs
   ·cases hs
   ·simp only[rv,hs,cv,Sem.run_bind,asAddr,Sem.run_pure,Result.andThen_ok]
    cases k with
    |none=>exact mi hk (g.box_get hi hr)
    | some m=>
     simp only[ldb] at hr
     cases hb:Nat.ble (off+m) (S.box i).length with
     |false=>rw[hb] at hr;cases hr
     | true=>
      rw[hb] at hr
      cases hr
      have hle:off+m≤(S.box i).length:=Nat.le_of_ble_eq_true hb
      refine mh (cs:=((S.box i).drop off).take m) hk (by simp;omega) (fun j v hj=>?_)
      rw[gF]
      refine g.box_get hi ?_
      rw[List.getElem?_take] at hj
      split at hj
      ·rw[List.getElem?_drop] at hj;exact hj
      ·cases hj
  ·cases hr
theorem res_runL (g:G M C n S h β a w):∀(rs:List ResultVar) (vs:List Value),resL M.P S rs=some vs→(rs.mapM (m:=Sem) (rv a.tmps)).run M.P w=.ok vs w:=by
 intro rs
 induction rs with
 |nil=>intro vs hv;cases hv;rfl
 | cons r rs ih=>
  intro vs hv
  simp only[resL] at hv
  split at hv
  ·rename_i v vs' h1 h2
   cases hv
   rw[List.mapM_cons]
   simp only[Sem.run_bind,res_run1 g h1,Result.andThen_ok,ih _ h2,Sem.run_pure]
  ·cases hv
theorem i9 (g:G M C n S h β a w) {fn:Func} {v:Value} (hr:resA M.P S fn.results.toList=some v):(results fn a.tmps).run M.P w=.ok v w:=by
 unfold resA at hr
 have key:∀vs,resL M.P S fn.results.toList=some vs→(results fn a.tmps).run M.P w=.ok (if h:vs.toArray.size=1 then vs.toArray[0] else .tuple vs.toArray) w:=by
  intro vs hvs
  have e:results fn a.tmps=(do let vs ←fn.results.mapM (rv a.tmps);pure (if h:vs.size=1 then vs[0] else .tuple vs):Sem Value):=rfl
  rw[e,←Array.toArray_toList (xs:=fn.results),List.mapM_toArray]
  have:=res_runL g _ vs hvs
  simp only[Sem.run_bind,Sem.run_map,this,Result.andThen_ok,Sem.run_pure]
 split at hr
 ·rename_i v' hv
  cases hr
  rw[key _ hv];rfl
 ·rename_i vs hne hvs
  cases hr
  rw[key _ hvs]
  have:¬vs.toArray.size=1:=by
   intro h1
   obtain⟨v,rfl⟩:=List.length_eq_one_iff.1 (by simpa using h1)
   exact hne v rfl
  rw[dif_neg this]
 ·cases hr
@[go_sem] def argS (i:Nat):List Value→List (Nat×AV)
 |[]=>[]
 |v :: vs=>(i,.v v) :: argS (i+1) vs
theorem qO:∀(vs:List Value) (i t:Nat),lk (argS i vs) t=if h:i≤t∧t - i < vs.length then .v (vs[t - i]'h.2) else .top:=by
 intro vs
 induction vs with
 |nil=>intro i t;simp[argS,lk]
 | cons v vs ih=>
  intro i t
  simp only[argS,lk]
  by_cases hit:i=t
  ·subst hit;simp
  ·have:(i == t)=false:=by simpa using hit
   rw[this,cond_false,ih]
   by_cases hc:i+1≤t∧t - (i+1) < vs.length
   ·have hc':i≤t∧t - i < (v :: vs).length:=by simp;omega
    rw[dif_pos hc,dif_pos hc']
    congr 1
    have he:t - i=(t - (i+1))+1:=by omega
    simp only[he,List.getElem_cons_succ]
   ·have hc':¬(i≤t∧t - i < (v :: vs).length):=by simp;omega
    rw[dif_neg hc,dif_neg hc']
theorem Spec.enter {f:FuncId} {fn:Func} {c:Code} {args:List Value} {R:Value→PH→Prop} (hf:M.P.funcs[f]?=some fn) (hb:fn.body=some c) (hok:dS M.P f=true) (hn:fn.ntmps=n) (ha:args.length≤n) (rs:List ResultVar) (hr:fn.results=rs.toArray)
  (hk:∀C [NoPin C],AWP M n C c (rq M.P rs R) E ⟨argS 0 args,[]⟩ h):Spec M f args.toArray h R E:=⟨hok,fun w hw hg=>by
 obtain rfl:fn.results.toList=rs:=by rw[hr]
 refine calls_of_wp hf hb ?_
 have g:G M ⟨w,h,[],[]⟩ n ⟨argS 0 args,[]⟩ h (fun _=>0) {tmps:=args.toArray ++Array.replicate (fn.ntmps - args.toArray.size) undef,defers:=[]} w:=by
  refine⟨by simp;omega,rfl,⟨Below.refl _ _,hw,Sub.refl h,New.refl _ h,hg⟩,fun i cs hi=>by simp at hi,fun i j ci cj hi=>by simp at hi,fun t=>?_,fun t i hi=>?_,qBh _,fun i hi=>by cases hi⟩
  ·rw[qO]
   split
   ·rename_i hc
    refine .inr ?_
    simp only[Nat.sub_zero,List.length_cons] at hc ⊢
    have hlt:t < args.toArray.size:=by simpa using hc.2
    simp only[cv,Array.getD_eq_getD_getElem?,Array.getElem?_append_left hlt]
    simp[hc.2]
   ·exact .inl rfl
  ·rw[qO] at hi
   split at hi<;>cases hi
 haveI:NoPin ⟨w,h,[],[]⟩:=⟨rfl⟩
 refine wp_mono (hk ⟨w,h,[],[]⟩ _ _ w g) fun e a w' hq=>?_
 cases e with
 | panic ch=>
  obtain⟨hd,h',hfine,he⟩:=hq
  exact⟨hd,h',hfine.below,hfine.has,hfine.sub,hfine.new,he⟩
 |outgrown=>exact(hq:False).elim
 | normal=>
  obtain⟨S',h',β',g',hq⟩:=hq
  obtain⟨v,hv,hr⟩:=opt_iff.1 hq
  exact⟨g'.defers,v,i9 g' hv,h',g'.fine.below,g'.fine.has,g'.fine.sub,g'.fine.new,hr⟩
 | ret=>
  obtain⟨S',h',β',g',hq⟩:=hq
  obtain⟨v,hv,hr⟩:=opt_iff.1 hq
  exact⟨g'.defers,v,i9 g' hv,h',g'.fine.below,g'.fine.has,g'.fine.sub,g'.fine.new,hr⟩
 |exit id=>obtain⟨S',h',β',g',hq⟩:=hq;exact(hq:False).elim
 |goto l=>obtain⟨S',h',β',g',hq⟩:=hq;exact(hq:False).elim⟩
theorem Fine.re {C':Ctx} (f:Fine M C h w) (h1:C'.w0=C.w0) (h2:C'.h0=C.h0):Fine M C' h w:=⟨by rw[h1];exact f.below,f.has,by rw[h2];exact f.sub,by rw[h1,h2];exact f.new,f.gl⟩
theorem BoxAt.re {C':Ctx} {b:Nat} {cs:List Value} (x:BoxAt C h w b cs) (h1:C'.w0=C.w0):BoxAt C' h w b cs:=⟨x.row,by rw[h1];exact x.old,x.own⟩
@[go_sem] def argV (i:Nat):List AV→List (Nat×AV)
 |[]=>[]
 |v :: vs=>(i,v) :: argV (i+1) vs
theorem lk_argV:∀(vs:List AV) (i t:Nat),lk (argV i vs) t=if h:i≤t∧t - i < vs.length then vs[t - i]'h.2 else .top:=by
 intro vs
 induction vs with
 |nil=>intro i t;simp[argV,lk]
 | cons v vs ih=>
  intro i t
  simp only[argV,lk]
  by_cases hit:i=t
  ·subst hit;simp
  ·have:(i == t)=false:=by simpa using hit
   rw[this,cond_false,ih]
   by_cases hc:i+1≤t∧t - (i+1) < vs.length
   ·have hc':i≤t∧t - i < (v :: vs).length:=by simp;omega
    rw[dif_pos hc,dif_pos hc']
    have he:t - i=(t - (i+1))+1:=by omega
    simp only[he,List.getElem_cons_succ]
   ·have hc':¬(i≤t∧t - i < (v :: vs).length):=by simp;omega
    rw[dif_neg hc,dif_neg hc']
@[go_sem] def rqL (P:Program) (rs:List ResultVar) (rest:List (List Value)) (h0:PH) (R:Value→List Value→PH→Prop):Exit→AS→PH→Prop
 |.normal,S,h=>opt (resA P S rs) fun v=>leB (S.box 0 :: rest) S.bx∧Le h0 h∧R v (S.box 0) h
 |.ret,S,h=>opt (resA P S rs) fun v=>leB (S.box 0 :: rest) S.bx∧Le h0 h∧R v (S.box 0) h
 |_,_,_=>False
theorem SpecL.enter {f:FuncId} {fn:Func} {c:Code} {args:List AV} {row:List Value} {R:Value→List Value→PH→Prop} (hf:M.P.funcs[f]?=some fn) (hb:fn.body=some c) (hok:dS M.P f=true) (hn:fn.ntmps=n) (ha:args.length≤n) (hw:wfL 1 (argV 0 args)=true) (rs:List ResultVar) (hr:fn.results=rs.toArray)
  (hk:∀(C:Ctx) (rest:List (List Value)),C.pin.length=rest.length+1→AWP M n C c (rqL M.P rs rest h R) NP ⟨argV 0 args,row :: rest⟩ h):SpecL M f args row h R:=⟨hok,fun C β rest w hfine hrows=>by
 obtain rfl:fn.results.toList=rs:=by rw[hr]
 refine calls_of_wp hf hb ?_
 have hlen:(List.map β (List.range (rest.length+1))).length=rest.length+1:=by simp
 have hpin:∀i,i < rest.length+1→(List.map β (List.range (rest.length+1))).getD i 0=β i:=fun i hi=>by simp[hi]
 have g:G M ⟨C.w0,C.h0,(List.range (rest.length+1)).map β,[]⟩ n ⟨argV 0 args,row :: rest⟩ h β {tmps:=(args.map (cv β)).toArray ++Array.replicate (fn.ntmps - (args.map (cv β)).toArray.size) undef,defers:=[]} w:=by
  refine⟨by simp;omega,rfl,hfine.re rfl rfl,fun i cs hi hc=>(hrows.at_ i cs hi hc).re rfl,hrows.inj,fun t=>?_,fun t i hi=>?_,by rw[hlen];simp,fun i hi=>(hpin i (by rw[hlen] at hi;exact hi)).symm⟩
  ·rw[lk_argV]
   split
   ·rename_i hc
    refine .inr ?_
    simp only[Nat.sub_zero] at hc ⊢
    have hlt:t < (args.map (cv β)).toArray.size:=by simpa using hc.2
    simp only[Array.getD_eq_getD_getElem?,Array.getElem?_append_left hlt]
    simp[hc.2]
   ·exact .inl rfl
  ·have:=Ge hw t i hi
   simp;omega
 refine wp_mono (hk ⟨C.w0,C.h0,_,[]⟩ rest hlen _ _ w g) fun e a w' hq=>?_
 have fin:∀{S':AS} {h':PH} {β':Nat→Nat},G M ⟨C.w0,C.h0,(List.range (rest.length+1)).map β,[]⟩ n S' h' β' a w'→leB (S'.box 0 :: rest) S'.bx→Rows C h' w' β (S'.box 0 :: rest):=by
  intro S' h' β' g' hle
  have hb:=Bh hle
  have hlt:∀(i:Nat) (cs:List Value),(S'.box 0 :: rest)[i]?=some cs→β' i=β i:=fun i cs hi=>by
   have:i < (S'.box 0 :: rest).length:=(List.getElem?_eq_some_iff.1 hi).1
   have hi':i < rest.length+1:=by simpa using this
   rw[g'.pin.2 i (by rw[hlen];exact hi'),hpin i hi']
  refine⟨fun i cs hi hc=>?_,fun i j ci cj hi hj hci hcj hij=>?_⟩
  ·rw[←hlt i cs hi];exact(g'.boxes i cs (hb.2 i cs hi hc) hc).re rfl
  ·rw[←hlt i ci hi,←hlt j cj hj] at hij
   exact g'.inj i j ci cj (hb.2 i ci hi hci) (hb.2 j cj hj hcj) hci hcj hij
 cases e with
 | panic ch=>
  obtain⟨hd,h',hfine,he⟩:=hq
  exact(he:False).elim
 |outgrown=>exact(hq:False).elim
 | normal=>
  obtain⟨S',h',β',g',hq⟩:=hq
  obtain⟨v,hv,hle,hl,hr⟩:=opt_iff.1 hq
  exact⟨g'.defers,v,i9 g' hv,S'.box 0,h',g'.fine.re rfl rfl,hl.sub,fin g' hle,hr⟩
 | ret=>
  obtain⟨S',h',β',g',hq⟩:=hq
  obtain⟨v,hv,hle,hl,hr⟩:=opt_iff.1 hq
  exact⟨g'.defers,v,i9 g' hv,S'.box 0,h',g'.fine.re rfl rfl,hl.sub,fin g' hle,hr⟩
 |exit id=>obtain⟨S',h',β',g',hq⟩:=hq;exact(hq:False).elim
 |goto l=>obtain⟨S',h',β',g',hq⟩:=hq;exact(hq:False).elim⟩
@[go_sem] def resO (S:AS) (t:Nat) (R:List Value→Nat→Prop):Prop:=match lk S.sl t with
 |.v (.slice none 0 0)=>R [] 0
 |.s i off len cap=>off=0∧cap=(S.box i).length∧S.box i≠[]∧R (S.box i) len
 |_=>False
@[go_sem] def rqO (t:Nat) (R:List Value→Nat→PH→Prop):Exit→AS→PH→Prop
 |.normal,S,h=>resO S t fun row len=>R row len h
 |.ret,S,h=>resO S t fun row len=>R row len h
 |_,_,_=>False
theorem SpecO.enter {f:FuncId} {fn:Func} {c:Code} {args:List Value} {R:List Value→Nat→PH→Prop} (hf:M.P.funcs[f]?=some fn) (hb:fn.body=some c) (hok:dS M.P f=true) (hn:fn.ntmps=n) (ha:args.length≤n) (t:Nat) (hr:fn.results=#[.tmp t])
  (hk:∀C [NoPin C],AWP M n C c (rqO t R) NP ⟨argS 0 args,[]⟩ h):SpecO M f args.toArray h R:=⟨hok,fun w hw hg=>by
 refine calls_of_wp hf hb ?_
 have g:G M ⟨w,h,[],[]⟩ n ⟨argS 0 args,[]⟩ h (fun _=>0) {tmps:=args.toArray ++Array.replicate (fn.ntmps - args.toArray.size) undef,defers:=[]} w:=by
  refine⟨by simp;omega,rfl,⟨Below.refl _ _,hw,Sub.refl h,New.refl _ h,hg⟩,fun i cs hi=>by simp at hi,fun i j ci cj hi=>by simp at hi,fun t=>?_,fun t i hi=>?_,qBh _,fun i hi=>by cases hi⟩
  ·rw[qO]
   split
   ·rename_i hc
    refine .inr ?_
    simp only[Nat.sub_zero,List.length_cons] at hc ⊢
    have hlt:t < args.toArray.size:=by simpa using hc.2
    simp only[cv,Array.getD_eq_getD_getElem?,Array.getElem?_append_left hlt]
    simp[hc.2]
   ·exact .inl rfl
  ·rw[qO] at hi
   split at hi<;>cases hi
 haveI:NoPin ⟨w,h,[],[]⟩:=⟨rfl⟩
 have hres:∀(tmps:Array Value),(results fn tmps).run M.P w=.ok (tmps.getD t undef) w:=fun tmps=>by
  have e:results fn tmps=(do let vs ←fn.results.mapM (rv tmps);pure (if h:vs.size=1 then vs[0] else .tuple vs):Sem Value):=rfl
  rw[e,hr]
  simp[rv]
 have hres':∀(tmps:Array Value) (w':World),(results fn tmps).run M.P w'=.ok (tmps.getD t undef) w':=fun tmps w'=>by
  have e:results fn tmps=(do let vs ←fn.results.mapM (rv tmps);pure (if h:vs.size=1 then vs[0] else .tuple vs):Sem Value):=rfl
  rw[e,hr]
  simp[rv]
 have fin:∀{S':AS} {h':PH} {β':Nat→Nat} {a:Act} {w':World},G M ⟨w,h,[],[]⟩ n S' h' β' a w'→resO S' t (fun row len=>R row len h')→
   ((a.tmps.getD t undef=.slice none 0 0∧R [] 0 h')∨∃b row len T,a.tmps.getD t undef=.slice (some ⟨b,0,none⟩) len row.length∧w.heap.size≤b∧h' b=none∧w'.heap[b]?=some (.cells row.toArray T (0,0))∧row≠[]∧R row len h'):=by
  intro S' h' β' a w' g' hq
  simp only[resO] at hq
  split at hq
  ·rename_i hx
   rcases g'.slots t with hs |hs<;>rw[hx] at hs
   ·cases hs
   ·exact .inl ⟨hs,hq⟩
  ·rename_i i off len cap hx
   obtain⟨rfl,rfl,hne,hq⟩:=hq
   have hi:i < S'.bx.length:=g'.wf t i (by rw[hx];rfl)
   have hbx:=g'.boxes i (S'.box i) (by simp[AS.box,hi]) hne
   obtain⟨T,hrow⟩:=hbx.row
   rcases g'.slots t with hs |hs<;>rw[hx] at hs
   ·cases hs
   ·exact .inr ⟨β' i,S'.box i,len,T,hs,hbx.old,hbx.own,hrow,hne,hq⟩
  ·exact hq.elim
 refine wp_mono (hk ⟨w,h,[],[]⟩ _ _ w g) fun e a w' hq=>?_
 cases e with
 | panic ch=>
  obtain⟨hd,h',hfine,he⟩:=hq
  exact(he:False).elim
 |outgrown=>exact(hq:False).elim
 | normal=>
  obtain⟨S',h',β',g',hq⟩:=hq
  exact⟨g'.defers,_,hres' _ _,h',g'.fine.below,g'.fine.has,g'.fine.sub,g'.fine.new,fin g' hq⟩
 | ret=>
  obtain⟨S',h',β',g',hq⟩:=hq
  exact⟨g'.defers,_,hres' _ _,h',g'.fine.below,g'.fine.has,g'.fine.sub,g'.fine.new,fin g' hq⟩
 |exit id=>obtain⟨S',h',β',g',hq⟩:=hq;exact(hq:False).elim
 |goto l=>obtain⟨S',h',β',g',hq⟩:=hq;exact(hq:False).elim⟩
end
attribute [irreducible] walk
theorem bif_12 (b:Bool):((bif b then 1 else 2:Nat) == 0)=false:=by cases b<;>rfl
attribute [go_sem] cls bif_12 cond_true cond_false Bool.not_true Bool.not_false List.length_cons List.length_nil List.cons_append List.nil_append List.getD_cons_zero List.getD_cons_succ List.set_cons_zero List.set_cons_succ List.drop_zero List.drop_succ_cons List.take_zero List.take_succ_cons List.getElem?_cons_zero List.getElem?_cons_succ List.map_cons List.map_nil List.map_append Option.map_some Option.map_none Nat.zero_add Nat.add_zero beq_self_eq_true List.all_cons List.all_nil Bool.and_true Bool.true_and and_true true_and List.append_nil List.append_assoc Value.cells Value.oneCell' exists_eq_left exists_eq_left' Option.some.injEq forall_eq forall_eq' if_true if_false Nat.sub_zero eq_self ite_self id_eq
open Go.Proofs
def debruijn:List Int:=[0,1,28,2,29,14,24,3,30,22,20,15,25,17,4,8,31,27,13,23,21,19,16,7,26,12,18,6,11,5,10,9]
def tabCells:Array Value:=(debruijn.map (Value.int .u8)).toArray
noncomputable def mach:Mach:=⟨Tryz.prog,fun b=>if b=0 then some tabCells else none,by kernel_rfl⟩
end Go.Q
