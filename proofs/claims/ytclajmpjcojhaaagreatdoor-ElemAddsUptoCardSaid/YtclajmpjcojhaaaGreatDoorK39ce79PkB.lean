/-
  The operations that make or write memory, on abstract states. Conditions: none beyond each rule's own.
  append and copy on the call's own rows; all writers together. Conditions: none beyond each rule's own.
-/
import Derived.Test.YtclajmpjcojhaaaGreatDoorK0b8998PkA
set_option linter.unusedVariables false
set_option linter.unusedSimpArgs false
namespace Go.Q
open Go.RowKit (Below)
def mk1 (P:Program) (T:TypeId):Option (Value×Nat):=match P.underlying T with
  | some (.slice e)=>match P.info? e with
    | some i=>match i.zero with
      |some v=>if i.size=1∧v.oneCell'=true∧1≤i.bytes then some (v,i.bytes) else none
      |none=>none
    |none=>none
  |_=>none
def mkB (P:Program) (T:TypeId):Option (List Value×Option Nat):=match P.underlying T with
  | some (.slice e)=>match zer P e,tk P e,P.info? e with
    |some z,some t,some i=>if i.size=partSize t∧z.length=i.size∧1≤i.size then some (z,t) else none
    |_,_,_=>none
  |_=>none
@[go_sem] def repC (z:List Value):Nat→List Value
  |0=>[]
  |n+1=>z ++repC z n
@[go_sem] def srcA (S:AS) (h:PH) (y:AV) (k:Nat→List Value→Prop):Prop:=match y with
  |.v (.slice a m _)=>∃news:List Value,news.length=m∧(m≠0→∃ad,a=some ad∧∀(j:Nat) (v:Value),news[j]?=some v→h.at (ad.add j)=some v)∧k m news
  |.s i off m _=>off+m≤(S.box i).length∧k m (((S.box i).drop off).take m)
  |_=>False
@[go_sem] def appA (S:AS) (h:PH) (b:Nat) (x y:AV) (k:AS→PH→AV→Prop):Prop:=srcA S h y fun m news=>news.all Value.oneCell'=true∧match x with
  |.v (.slice none 0 0)=>(m=0→k S h (.v (.slice none 0 0)))∧(m≠0→(2*m+1024)*b≤2^48∧∀junk:List Value,k (S.push (news ++junk)) h (.s S.bx.length 0 m (m+junk.length)))
  |.s i off len cap=>off=0∧len≤cap∧cap=(S.box i).length∧(2*(len+m)+1024)*b≤2^48∧
      ∀junk:List Value,k ((S.setBox i []).push ((S.box i).take len ++news ++junk)) h (.s S.bx.length 0 (len+m) (len+m+junk.length))
  |_=>False
@[go_sem] def copA (S:AS) (h:PH) (x y:AV) (k:AS→PH→AV→Prop):Prop:=match x,y with
  |.s i off dlen _,.v (.slice a m _)=>∃news:List Value,news.length=min m dlen∧(m≠0→∃ad,a=some ad∧∀(j:Nat) (v:Value),news[j]?=some v→h.at (ad.add j)=some v)∧news.all Value.oneCell'=true∧off < (S.box i).length∧off+min m dlen≤(S.box i).length∧
      k (S.setBox i (spl (S.box i) off news)) h (.v (.int .i64 (min m dlen:Nat)))
  |_,_=>False
def ownA (M:Mach) (f:FuncId) (vs:List Value) (S:AS) (h:PH) (k:AS→PH→AV→Prop):Prop:=
  ∃R,SpecO M f vs.toArray h R∧(∀h',Step h h'→R [] 0 h'→k S h' (.v (.slice none 0 0)))∧∀row len h',Step h h'→row≠[]→R row len h'→k (S.push row) h' (.s S.bx.length 0 len row.length)
def loanA (M:Mach) (c:Nat) (f:FuncId) (args:List AV) (S:AS) (h:PH) (k:AS→PH→AV→Prop):Prop:=
  c=2∧∃i R,S.bx[i]?=some (S.box i)∧S.box i≠[]∧onlyOf i args=true∧SpecL M f (args.map ren0) (S.box i) h R∧∀v row' h',Step h h'→R v row' h'→k (S.setBox i row') h' (.v v)
def lendA (M:Mach) (f:FuncId) (args:List AV) (S:AS) (h:PH) (k:AS→PH→AV→Prop):Prop:=
  ∃(i:Nat) (R:AV→Prop),S.bx[i]?=some (S.box i)∧S.box i≠[]∧onlyOf i args=true∧(∀b h',Step h h'→h' b=some (S.box i).toArray→Spec M f (args.map (cv fun _=>b)).toArray h' (fun v _=>∃x,R x∧onlyOf i [x]=true∧v=cv (fun _=>b) x) NP)∧∀x,R x→k S h x
@[go_sem] def imA (M:Mach) (op:Op) (S:AS) (h:PH) (E:List PanicEntry→PH→Prop) (k:AS→PH→AV→Prop):Prop:=match op with
  |.alloc T=>opt (zer M.P T) fun z=>k (S.push z) h (.p S.bx.length 0)
  | .box _ x=>match S.ev x with
    |.v v=>k (S.push v.cells.toList) h (.p S.bx.length 0)
    |_=>False
  | .store T x y=>match S.ev x,S.ev y with
    |.p i off,.v v=>opt (tk M.P T) fun t=>opt (fits t v) fun vs=>vs.all Value.oneCell'=true∧off < (S.box i).length∧off+vs.length≤(S.box i).length∧k (S.setBox i (spl (S.box i) off vs)) h .top
    |_,_=>False
  | .makeSlice T l c=>match S.ev l,S.ev c with
    |.v (.int _ l),.v (.int _ c)=>opt (mk1 M.P T) fun(z,b)=>0≤l∧l≤c∧(b:Int)*c≤2^48∧k (S.push (List.replicate c.toNat z)) h (.s S.bx.length 0 l.toNat c.toNat)
    |_,_=>False
  | .buildSlice T len parts=>match mk1 M.P T with
    |some (z,_)=>len≤2^24∧opt (fillA (fun i=>some (i,none)) (List.replicate len z) (parts.toList.map fun p=>(p.1,S.ev p.2))) fun cs=>k (S.push cs) h (.s S.bx.length 0 len len)
    |none=>opt (mkB M.P T) fun(z,t)=>len*partSize t≤2^24∧1≤len∧opt (fillA (fun i=>some (i*partSize t,t)) (repC z len) (parts.toList.map fun p=>(p.1,S.ev p.2))) fun cs=>k (S.push cs) h (.s S.bx.length 0 len len)
  | .call {callee:=.value f,args,argTypes:=_}=>match S.ev f with
    | .v (.func (.func f) first cap)=>match vals (args.toList.map S.ev) with
      |some vs=>(∃R E',Spec M f (first.toList ++vs ++cap.toList).toArray h R E'∧(∀v h',Step h h'→R v h'→k S h' (.v v))∧(∀ch h',Step h h'→E' ch h'→E ch h'))∨ownA M f (first.toList ++vs ++cap.toList) S h k
      |none=>first.toList=[]∧cap.toList=[]∧(loanA M (cls op) f (args.toList.map S.ev) S h k∨lendA M f (args.toList.map S.ev) S h k)
    |_=>False
  | .call {callee:=.builtin .append,args,argTypes}=>match args.toList,argTypes.toList with
    |[x,y],[T,U]=>uk M.P U=.slice∧opt (mk1 M.P T) fun(_,b)=>appA S h b (S.ev x) (S.ev y) k
    |_,_=>False
  | .call {callee:=.builtin .copy,args,argTypes}=>match args.toList,argTypes.toList with
    |[x,y],T :: _=>opt (mk1 M.P T) fun _=>copA S h (S.ev x) (S.ev y) k
    |_,_=>False
  | .panic x=>match S.ev x with
    |.v (.iface t v)=>E [{v:=.iface t v,recovered:=false}] h
    |_=>False
  |_=>False
theorem call_np {M:Mach} {f:FuncId} {args:Array Value} {h:PH} {R:Value→PH→Prop} {E:List PanicEntry→PH→Prop} {k:PH→Value→Prop} {X:Prop} (s:Spec M f args h R NP) (hk:∀v h',Step h h'→R v h'→k h' v):
    (∃R E',Spec M f args h R E'∧(∀v h',Step h h'→R v h'→k h' v)∧(∀ch h',Step h h'→E' ch h'→E ch h'))∨X:=.inl ⟨R,NP,s,hk,fun _ _ _ x=>(x:False).elim⟩
theorem call_own {M:Mach} {f:FuncId} {vs:List Value} {S:AS} {h:PH} {R:List Value→Nat→PH→Prop} {k:AS→PH→AV→Prop} {X:Prop} (s:SpecO M f vs.toArray h R) (h0:∀h',Step h h'→R [] 0 h'→k S h' (.v (.slice none 0 0))) (hk:∀row len h',Step h h'→row≠[]→R row len h'→k (S.push row) h' (.s S.bx.length 0 len row.length)):
    X∨ownA M f vs S h k:=.inr ⟨R,s,h0,hk⟩
theorem call_loan {M:Mach} {f:FuncId} {args:List AV} {S:AS} {h:PH} {R:Value→List Value→PH→Prop} {k:AS→PH→AV→Prop} {X:Prop} (i:Nat) (hi:S.bx[i]?=some (S.box i)) (hne:S.box i≠[]) (ho:onlyOf i args=true) (s:SpecL M f (args.map ren0) (S.box i) h R) (hk:∀v row' h',Step h h'→R v row' h'→k (S.setBox i row') h' (.v v)):
    loanA M 2 f args S h k∨X:=.inl ⟨rfl,i,R,hi,hne,ho,s,hk⟩
theorem call_lend {M:Mach} {f:FuncId} {args:List AV} {S:AS} {h:PH} {R:Value→Prop} {k:AS→PH→AV→Prop} {X:Prop} (i:Nat) (hi:S.bx[i]?=some (S.box i)) (hne:S.box i≠[]) (ho:onlyOf i args=true) (s:∀b h',Step h h'→h' b=some (S.box i).toArray→Spec M f (args.map (cv fun _=>b)).toArray h' (fun v _=>R v) NP) (hk:∀v,R v→k S h (.v v)):
    X∨lendA M f args S h k:=.inr ⟨i,fun x=>∃v,x=.v v∧R v,hi,hne,ho,fun b h' hs hb=>(s b h' hs hb).mono (fun v _ _ hr=>⟨.v v,⟨v,rfl,hr⟩,rfl,rfl⟩) (fun _ _ _ h=>h),fun x ⟨v,hx,hr⟩=>hx▸hk v hr⟩
theorem call_view {M:Mach} {f:FuncId} {args:List AV} {S:AS} {h:PH} {R:AV→Prop} {k:AS→PH→AV→Prop} {X:Prop} (i:Nat) (hi:S.bx[i]?=some (S.box i)) (hne:S.box i≠[]) (ho:onlyOf i args=true) (s:∀b h',Step h h'→h' b=some (S.box i).toArray→Spec M f (args.map (cv fun _=>b)).toArray h' (fun v _=>∃x,R x∧onlyOf i [x]=true∧v=cv (fun _=>b) x) NP) (hk:∀x,R x→k S h x):
    X∨lendA M f args S h k:=.inr ⟨i,R,hi,hne,ho,s,hk⟩
theorem only_ix {i:Nat} {x:AV} (h:onlyOf i [x]=true):∀j,x.ix=some j→j=i:=by
  intro j hj
  cases x with
  |top=>cases h
  |v x=>cases hj
  |p k off=>cases hj;simpa[onlyOf] using h
  |s k off len cap=>cases hj;simpa[onlyOf] using h
theorem only_cv1 {β:Nat→Nat} {i:Nat} {x:AV} (h:onlyOf i [x]=true):cv (fun _=>β i) x=cv β x:=by
  have:=only_cv (β:=β) h
  simpa using this
section
variable {M:Mach} {C:Ctx} {n:Nat} {S:AS} {h:PH} {β:Nat→Nat} {a:Act} {w:World}
def ImOk (M:Mach) (C:Ctx) (n:Nat) (a:Act) (w:World) (o:Oper) (E:List PanicEntry→PH→Prop) (k:AS→PH→AV→Prop):Prop:=
  ∀ Q:Exit→Act→World→Prop,(∀ch h' w',Fine M C h' w'→E ch h'→Q (.panic ch) a w')→
    o.wp M.P a w (fun a' w'=>(cls o.op=2∨Below w.heap.size w w')∧∃S' h' x β',G M C n (S'.put o.dst x) h' β' a' w'∧k S' h' x) Q
theorem ImOk.mk {o:Oper} {E:List PanicEntry→PH→Prop} {k:AS→PH→AV→Prop} (hd:∀d,o.dst=some d→d < n) {v:Value} {w':World} {S':AS} {h':PH} {x:AV} {β':Nat→Nat}
    (hr:(execOp a.eval o).run M.P w=.ok (.value v) w') (hw:cls o.op=2∨Below w.heap.size w w') (g':G M C n S' h' β' a w') (hc:Conc β' x v) (hx:∀i,x.ix=some i→i < S'.bx.length) (hk:k S' h' x):
    ImOk M C n a w o E k:=fun Q _=>by
  simp only[Oper.wp,hr,Oper.upon]
  exact⟨hw,S',h',x,β',g'.put hd hc hx,hk⟩
theorem im_alloc (g:G M C n S h β a w) {o:Oper} (hd:∀d,o.dst=some d→d < n) {T:TypeId} (ho:o.op=.alloc T) {E:List PanicEntry→PH→Prop} {k:AS→PH→AV→Prop} (hk:imA M o.op S h E k):ImOk M C n a w o E k:=by
  rw[ho] at hk
  simp only[imA] at hk
  obtain⟨z,hz,hk⟩:=opt_iff.1 hk
  obtain⟨v,hv,hvc⟩:=zer_run hz w
  obtain⟨β',h1,h2,g'⟩:=g.push z T
  refine .mk hd (v:=.pointer (some ⟨w.heap.size,0,none⟩)) (x:=.p S.bx.length 0) ?_ (.inr ((Below.refl _ _).alloc (Nat.le_refl _) _)) g' (.inr (by simp[cv,h2])) (fun i hi=>by cases hi;simp[AS.push]) hk
  simp[execOp,ho,Instr.alloc,hv,newVar,newRow,hvc]
theorem im_box (g:G M C n S h β a w) {o:Oper} (hd:∀d,o.dst=some d→d < n) {T:TypeId} {y:Operand} (ho:o.op=.box T y) {E:List PanicEntry→PH→Prop} {k:AS→PH→AV→Prop} (hk:imA M o.op S h E k):ImOk M C n a w o E k:=by
  rw[ho] at hk
  simp only[imA] at hk
  split at hk
  · rename_i v hy
    obtain⟨β',h1,h2,g'⟩:=g.push v.cells.toList T
    refine .mk hd (v:=.pointer (some ⟨w.heap.size,0,none⟩)) (x:=.p S.bx.length 0) ?_ (.inr ((Below.refl _ _).alloc (Nat.le_refl _) _)) g' (.inr (by simp[cv,h2])) (fun i hi=>by cases hi;simp[AS.push]) hk
    simp[execOp,ho,Instr.box,newVar,newRow,g.ev_v hy]
  · exact hk.elim
structure RowStep (w w':World) (b:Nat):Prop where
  os:w'.os=w.os
  tape:w'.tape=w.tape
  output:w'.output=w.output
  size:w'.heap.size=w.heap.size
  other:∀k,k≠b→w'.heap[k]?=w.heap[k]?
theorem RowStep.refl (w:World) (b:Nat):RowStep w w b:=⟨rfl,rfl,rfl,rfl,fun _ _=>rfl⟩
theorem RowStep.trans {w w' w'':World} {b:Nat} (x:RowStep w w' b) (y:RowStep w' w'' b):RowStep w w'' b:=
  ⟨y.os.trans x.os,y.tape.trans x.tape,y.output.trans x.output,y.size.trans x.size,fun k hk=>(y.other k hk).trans (x.other k hk)⟩
theorem row_setCell (w:World) (b off:Nat) (v:Value):RowStep w (w.setCell ⟨b,off,none⟩ v) b:=
  ⟨rfl,rfl,rfl,by simp,fun k hk=>heap_setCell_other w _ k v hk⟩
theorem run_storeCells_row {P:Program} {b:Nat} {T:TypeId}:∀(vs:List Value) (cs:List Value) (off i:Nat) (w:World),w.heap[b]?=some (.cells cs.toArray T (0,0))→off+i+vs.length≤cs.length→
    vs.all Value.oneCell'=true→∃w',(storeCells ⟨b,off,none⟩ vs i).run P w=.ok () w'∧w'.heap[b]?=some (.cells (spl cs (off+i) vs).toArray T (0,0))∧RowStep w w' b:=by
  intro vs
  induction vs with
  |nil=>intro cs off i w hw _ _;exact⟨w,rfl,hw,.refl _ _⟩
  | cons v vs ih=>
    intro cs off i w hw hle hall
    simp only[List.all_cons,Bool.and_eq_true,List.length_cons] at hall hle
    have hcell:w.cell? ⟨b,off+i,none⟩=some cs[off+i]:=by simp[World.cell?,hw]
    have hfree:w.frozen? ⟨b,off+i,none⟩=false:=frozen_of_row w b _ _ _ hw
    have hset:=heap_setCell_same w b (off+i) cs.toArray T v hw
    obtain⟨w',h1,h2,h3⟩:=ih (cs.set (off+i) v) off (i+1) (w.setCell ⟨b,off+i,none⟩ v) (by rw[hset];simp) (by simp;omega) hall.2
    refine⟨w',?_,by rw[←Nat.add_assoc] at h2;exact h2,(row_setCell w b _ v).trans h3⟩
    simp only[storeCells,add_none,Sem.run_bind,run_store _ _ _ _ _ hall.1,hcell,hfree,Bool.false_eq_true,if_false,Result.andThen_ok]
    exact h1
theorem G.setBox (g:G M C n S h β a w) {i:Nat} {cs cs':List Value} (hi:S.bx[i]?=some cs) (hc:cs≠[]) (hl:cs'.length=cs.length) {w':World} {T:TypeId} (hrow:w'.heap[β i]?=some (.cells cs'.toArray T (0,0))) (hs:RowStep w w' (β i)):
    G M C n (S.setBox i cs') h β a w':=by
  have hb:=g.boxes i cs hi hc
  have hlen:i < S.bx.length:=(List.getElem?_eq_some_iff.1 hi).1
  have hne':cs'≠[]:=by intro e;subst e;simp at hl;exact hc (List.length_eq_zero_iff.1 hl.symm)
  have hget:∀(j:Nat) (cj:List Value),(S.bx.set i cs')[j]?=some cj→(j=i∧cj=cs')∨(j≠i∧S.bx[j]?=some cj):=by
    intro j cj hj
    by_cases h:j=i
    · subst h;rw[List.getElem?_set_self hlen] at hj;exact .inl ⟨rfl,(Option.some.inj hj).symm⟩
    · rw[List.getElem?_set_ne (Ne.symm h)] at hj;exact .inr ⟨h,hj⟩
  have hold:∀(j:Nat) (cj:List Value),(S.bx.set i cs')[j]?=some cj→cj≠[]→∃cj',S.bx[j]?=some cj'∧cj'≠[]:=by
    intro j cj hj hn
    rcases hget j cj hj with⟨rfl,rfl⟩ |⟨_,hj⟩
    · exact⟨cs,hi,hc⟩
    · exact⟨cj,hj,hn⟩
  refine⟨g.size,g.defers,⟨⟨hs.os.trans g.fine.below.os,hs.tape.trans g.fine.below.tape,hs.output.trans g.fine.below.output,by rw[hs.size];exact g.fine.below.size,fun k hk=>?_⟩,fun b cs hb'=>?_,g.fine.sub,g.fine.new,g.fine.gl⟩,fun j cj hj hn=>?_,fun p q cp cq hp hq hnp hnq hpq=>?_,g.slots,fun t q hq=>?_,by simpa[AS.setBox] using g.pin⟩
  · rw[hs.other k (by have:=hb.old;omega)];exact g.fine.below.block k hk
  · have hbne:b≠β i:=fun e=>by rw[e,hb.own] at hb';cases hb'
    obtain⟨T',f,hw⟩:=g.fine.has b cs hb'
    exact⟨T',f,by rw[hs.other b hbne];exact hw⟩
  · rcases hget j cj hj with⟨rfl,rfl⟩ |⟨hji,hj⟩
    · exact⟨⟨T,hrow⟩,hb.old,hb.own⟩
    · have hbj:=g.boxes j cj hj hn
      have hne:β j≠β i:=fun e=>hji (g.inj j i cj cs hj hi hn hc e)
      obtain⟨T',hw⟩:=hbj.row
      exact⟨⟨T',by rw[hs.other _ hne];exact hw⟩,hbj.old,hbj.own⟩
  · obtain⟨cp',hp',hnp'⟩:=hold p cp hp hnp
    obtain⟨cq',hq',hnq'⟩:=hold q cq hq hnq
    exact g.inj p q cp' cq' hp' hq' hnp' hnq' hpq
  · have:=g.wf t q hq
    simpa[AS.setBox] using this
theorem im_store (g:G M C n S h β a w) {o:Oper} (hd:∀d,o.dst=some d→d < n) {T:TypeId} {x y:Operand} (ho:o.op=.store T x y) {E:List PanicEntry→PH→Prop} {k:AS→PH→AV→Prop} (hk:imA M o.op S h E k):ImOk M C n a w o E k:=by
  rw[ho] at hk
  simp only[imA] at hk
  split at hk
  · rename_i i off v hx hy
    obtain⟨t,ht,hk⟩:=opt_iff.1 hk
    obtain⟨vs,hvs,hk⟩:=opt_iff.1 hk
    obtain⟨hall,hlt,hle,hk⟩:=hk
    have hi:i < S.bx.length:=g.wf_ev (by rw[hx];rfl)
    have hget:S.bx[i]?=some (S.box i):=by simp[AS.box,hi]
    obtain⟨hc,hl⟩:=fits_some hvs
    have hsz:(sizeOf T).run M.P w=.ok (partSize t) w:=by
      cases t with
      |none=>exact(tk_none ht w).2
      |some m=>exact(tk_some ht w).2
    have hne:S.box i≠[]:=by intro e;rw[e] at hlt;simp at hlt
    obtain⟨T',hw⟩:=(g.boxes i _ hget hne).row
    obtain⟨w',h1,h2,h3⟩:=run_storeCells_row (P:=M.P) vs (S.box i) off 0 w hw (by simpa using hle) hall
    have hrun:(execOp a.eval o).run M.P w=.ok .skip w':=by
      simp only[execOp,ho,Instr.storeAt,Instr.sureAddr,g.ev_p hx,g.ev_v hy,Sem.run_bind,Sem.run_pure,Result.andThen_ok,storeVar,hsz,hc]
      rw[←hl]
      simp[h1]
    intro Q _
    simp only[Oper.wp,hrun,Oper.upon]
    exact⟨.inl (by rw[ho];rfl),S.setBox i (spl (S.box i) off vs),h,.top,β,G.put (g.setBox hget hne (by rw[spl_length]) (by simpa using h2) h3) hd (.inl rfl) (fun i hi=>by cases hi),hk⟩
  · exact hk.elim
theorem one_cells {v:Value} (h:v.oneCell'=true):v.cells=#[v]:=by
  cases v<;>first |rfl |cases h
theorem mk1_some {P:Program} {T:TypeId} {z:Value} {b:Nat} (h:mk1 P T=some (z,b)):∃E i,P.underlying T=some (.slice E)∧P.info? E=some i∧i.bytes=b∧i.size=1∧i.zero=some z∧z.cells=#[z]∧1≤b:=by
  unfold mk1 at h
  split at h
  · rename_i E hE
    split at h
    · rename_i i hi
      split at h
      · rename_i v hv
        split at h
        · rename_i hc
          cases h
          exact⟨E,i,hE,hi,rfl,hc.1,hv,one_cells hc.2.1,hc.2.2⟩
        · cases h
      · cases h
    · cases h
  · cases h
theorem zero_row (z:Value) (n:Nat):(Array.range n).map (fun x=>(#[z]:Array Value)[x % (#[z]:Array Value).size]!)=(List.replicate n z).toArray:=by
  apply Array.ext
  · simp
  · intro i h1 h2
    simp[Nat.mod_one]
theorem wrap_in {x:Int} (h0:0≤x) (h1:x≤2^48):IntKind.i64.wrap x=x:=by
  rw[IntKind.wrap_i64]
  omega
theorem im_makeSlice (g:G M C n S h β a w) {o:Oper} (hd:∀d,o.dst=some d→d < n) {T:TypeId} {x y:Operand} (ho:o.op=.makeSlice T x y) {E:List PanicEntry→PH→Prop} {k:AS→PH→AV→Prop} (hk:imA M o.op S h E k):ImOk M C n a w o E k:=by
  rw[ho] at hk
  simp only[imA] at hk
  split at hk
  · rename_i K l K' c hx hy
    obtain⟨⟨z,b⟩,hz,hk⟩:=opt_iff.1 hk
    obtain⟨h0,h1,h2,hk⟩:=hk
    dsimp only at h2 hk
    obtain⟨e,i,hE,hi,hb,hs,hzero,hzc,hb1⟩:=mk1_some hz
    have hc48:c≤2^48:=by
      have:(1:Int)*c≤(b:Int)*c:=Int.mul_le_mul_of_nonneg_right (by omega) (by omega)
      omega
    have hwl:IntKind.i64.wrap l=l:=wrap_in h0 (by omega)
    have hwc:IntKind.i64.wrap c=c:=wrap_in (by omega) hc48
    obtain⟨β',g1,g2,g'⟩:=g.push (List.replicate c.toNat z) e
    refine .mk hd (v:=.slice (some ⟨w.heap.size,0,none⟩) l.toNat c.toNat) (x:=.s S.bx.length 0 l.toNat c.toNat) ?_ (.inr ((Below.refl _ _).alloc (Nat.le_refl _) _)) g' (.inr (by simp[cv,g2])) (fun i hi=>by cases hi;simp[AS.push]) hk
    have hbig:(decide (c < 0) || decide (2^48 < (i.bytes:Int)*c) || decide (l < 0) || decide (c < l))=false:=by
      simp only[Bool.or_eq_false_iff,decide_eq_false_iff_not]
      rw[hb]
      omega
    have hzr:=zero_row z c.toNat
    by_cases hcz:c.toNat=0
    · simp[execOp,ho,Instr.makeSlice,run_underlying hE,g.ev_v hx,g.ev_v hy,asInt,asIntOf,typeInfo,hi,hwl,hwc,newRow,sizeOf,hs,hcz]
      rw[if_neg (by rw[hb];omega)]
      simp[Array.range_zero']
    · simp[execOp,ho,Instr.makeSlice,run_underlying hE,g.ev_v hx,g.ev_v hy,asInt,asIntOf,typeInfo,hi,hwl,hwc,newRow,sizeOf,hs,hcz,zeroValue,hzero,hzc]
      rw[if_neg (by rw[hb];omega)]
      have hz2:Array.map (fun x=>[z][x % 1]?.getD default) (Array.range c.toNat)=Array.replicate c.toNat z:=by simpa using hzr
      rw[hz2]
  · exact hk.elim
theorem im_call (g:G M C n S h β a w) {o:Oper} (hd:∀d,o.dst=some d→d < n) {f:Operand} {args:Array Operand} {ts:Array TypeId} (ho:o.op=.call {callee:=.value f,args,argTypes:=ts}) {E:List PanicEntry→PH→Prop} {k:AS→PH→AV→Prop} (hk:imA M o.op S h E k):ImOk M C n a w o E k:=by
  have hk0:=hk
  rw[ho] at hk0
  simp only[imA] at hk0
  split at hk0
  · rename_i fid first cap hf
    split at hk0
    · rename_i vs hvs
      have hargs:args.map a.eval=vs.toArray:=vals_eval' g hvs
      have hrun:∀(_:callable M.P fid=true),(execOp a.eval o).run M.P w=.ok (.enter fid (first.toList ++vs ++cap.toList).toArray) w:=by
        intro hok
        simp only[execOp,ho,resolve,Deferred.ofValue,g.ev_v hf,hargs,Sem.run_bind,Sem.run_pure,Result.andThen_ok,invoke]
        rw[run_call hok]
        congr 2
        apply Array.ext'
        simp
      rcases hk0 with hk |hk
      · obtain⟨R,E',hspec,hR,hE⟩:=hk
        intro Q hQ
        simp only[Oper.wp,hrun hspec.ok,Oper.upon]
        refine(hspec.run w g.fine.has g.fine.gl).mono fun e w' hp=>?_
        cases e with
        | returned v=>
          obtain⟨h',hb,hh,hs,hn,hr⟩:=hp
          have g':=g.grow hb hh hs hn
          exact⟨.inr hb,S,h',.v v,β,g'.put hd (.inr rfl) (fun i hi=>by cases hi),hR v h' ⟨hs⟩ hr⟩
        | panicked ch=>
          obtain⟨h',hb,hh,hs,hn,he⟩:=hp
          exact hQ ch h' w' (g.grow hb hh hs hn).fine (hE ch h' ⟨hs⟩ he)
        |outgrown=>exact(hp:False).elim
      · obtain⟨R,hspec,h0,hR⟩:=hk
        intro Q hQ
        simp only[Oper.wp,hrun hspec.ok,Oper.upon]
        refine(hspec.run w g.fine.has g.fine.gl).mono fun e w' hp=>?_
        cases e with
        | returned v=>
          obtain⟨h',hb,hh,hs,hn,hr⟩:=hp
          rcases hr with⟨rfl,hr⟩ |⟨b,row,len,T,rfl,hlb,hfree,hrow,hne,hr⟩
          · have g':=g.grow hb hh hs hn
            exact⟨.inr hb,S,h',.v _,β,g'.put hd (.inr rfl) (fun i hi=>by cases hi),h0 h' ⟨hs⟩ hr⟩
          · obtain⟨β',hβ,hβl,g'⟩:=g.adopt hb hh hs hn hlb hfree hrow
            exact⟨.inr hb,S.push row,h',.s S.bx.length 0 len row.length,β',g'.put hd (.inr (by simp only[cv,hβl])) (fun i hi=>by
              simp only[AV.ix,Option.some.injEq] at hi;subst hi;simp[AS.push]),hR row len h' ⟨hs⟩ hne hr⟩
        |panicked ch=>exact(hp:False).elim
        |outgrown=>exact(hp:False).elim
    · obtain⟨hfi,hca,hk⟩:=hk0
      have hrun:∀{i:Nat} (_:onlyOf i (args.toList.map S.ev)=true) (_:callable M.P fid=true),(execOp a.eval o).run M.P w=.ok (.enter fid ((args.toList.map S.ev).map (cv β)).toArray) w:=by
        intro i hon hok
        have hargs:args.map a.eval=((args.toList.map S.ev).map (cv β)).toArray:=by
          apply Array.ext'
          rw[←only_ev g hon]
          simp
        simp only[execOp,ho,resolve,Deferred.ofValue,g.ev_v hf,hargs,Sem.run_bind,Sem.run_pure,Result.andThen_ok,invoke]
        rw[run_call hok]
        congr 2
        apply Array.ext'
        simp[hfi,hca]
      rcases hk with hk |hk
      · obtain⟨hc,i,R,hi,hne,hon,hspec,hR⟩:=hk
        intro Q hQ
        simp only[Oper.wp,hrun hon hspec.ok,Oper.upon]
        have hcl:cls o.op=2:=by rw[ho];exact hc
        have hr:=hspec.run C (shift i β) (S.bx.set i []) w g.fine (g.rows hi hne)
        rw[ren_cv (β:=β) (i:=i) rfl hon] at hr
        refine hr.mono fun e w' hp=>?_
        cases e with
        | returned v=>
          obtain⟨row',h',hf',hs,hrows,hr⟩:=hp
          have g':=g.back hi hne hf' hrows
          exact⟨.inl hcl,S.setBox i row',h',.v v,β,g'.put hd (.inr rfl) (fun i hi=>by cases hi),hR v row' h' ⟨hs⟩ hr⟩
        |panicked ch=>exact(hp:False).elim
        |outgrown=>exact(hp:False).elim
      · obtain⟨i,R,hi,hne,hon,hspec,hR⟩:=hk
        intro Q hQ
        have hb:=g.boxes i _ hi hne
        obtain⟨T,hw⟩:=hb.row
        have hsub:Sub h (fun b=>if b=β i then some (S.box i).toArray else h b):=fun b cs hx=>by
          have:b≠β i:=fun e=>by rw[e,hb.own] at hx;cases hx
          simp only[if_neg this];exact hx
        have hs:=hspec (β i) _ ⟨hsub⟩ (by simp)
        rw[only_cv hon] at hs
        simp only[Oper.wp,hrun hon hs.ok,Oper.upon]
        refine(hs.run w (fun b cs hx=>?_) (g.fine.gl.trans hsub)).mono fun e w' hp=>?_
        · by_cases hbi:b=β i
          · subst hbi
            simp only[if_true,Option.some.injEq] at hx
            subst hx
            exact⟨T,(0,0),hw⟩
          · simp only[if_neg hbi] at hx;exact g.fine.has b cs hx
        · cases e with
          | returned v=>
            obtain⟨h',hbl,hh,hs,hn,x,hr,hox,rfl⟩:=hp
            have g':=g.below hbl
            exact⟨.inr hbl,S,h,x,β,g'.put hd (.inr (only_cv1 hox)) (fun j hj=>by rw[only_ix hox j hj];exact(List.getElem?_eq_some_iff.1 hi).1),hR x hr⟩
          | panicked ch=>
            obtain⟨_,_,_,_,_,he⟩:=hp
            exact(he:False).elim
          |outgrown=>exact(hp:False).elim
  · exact hk0.elim
theorem im_panic (g:G M C n S h β a w) {o:Oper} {x:Operand} (ho:o.op=.panic x) {E:List PanicEntry→PH→Prop} {k:AS→PH→AV→Prop} (hk:imA M o.op S h E k):ImOk M C n a w o E k:=by
  rw[ho] at hk
  simp only[imA] at hk
  split at hk
  · rename_i t v hx
    intro Q hQ
    have hrun:(execOp a.eval o).run M.P w=.halt (.panic (.iface t v)) w:=by
      simp[execOp,ho,g.ev_v hx,Instr.panic]
    simp only[Oper.wp,hrun,Oper.upon]
    exact hQ _ h w g.fine hk
  · exact hk.elim
theorem mkB_some {P:Program} {T:TypeId} {z:List Value} {t:Option Nat} (h:mkB P T=some (z,t)):∃E i,P.underlying T=some (.slice E)∧P.info? E=some i∧zer P E=some z∧i.size=partSize t∧z.length=i.size∧1≤i.size:=by
  unfold mkB at h
  split at h
  · rename_i E hE
    split at h
    · rename_i z' t' i hz ht hi
      split at h
      · rename_i hc
        cases h
        exact⟨E,i,hE,hi,hz,hc⟩
      · cases h
    · cases h
  · cases h
theorem repC_length (z:List Value) (n:Nat):(repC z n).length=n*z.length:=by
  induction n with
  |zero=>simp[repC]
  |succ n ih=>simp only[repC,List.length_append,ih,Nat.succ_mul];omega
theorem repC_get (z:List Value):∀(n i:Nat),i < n*z.length→(repC z n)[i]?=z[i % z.length]?:=by
  intro n
  induction n with
  |zero=>intro i hi;simp at hi
  | succ n ih=>
    intro i hi
    simp only[repC,List.getElem?_append]
    by_cases hl:i < z.length
    · rw[if_pos hl,Nat.mod_eq_of_lt hl]
    · rw[if_neg hl,ih _ (by rw[Nat.succ_mul] at hi;omega),←Nat.mod_eq_sub_mod (by omega)]
theorem zero_rows (z:List Value) (n:Nat) (hz:1≤z.length):(Array.range (n*z.length)).map (fun x=>z.toArray[x % z.toArray.size]!)=(repC z n).toArray:=by
  apply Array.ext
  · simp[repC_length]
  · intro i h1 h2
    have hi:i < n*z.length:=by simpa using h1
    have hg:=repC_get z n i hi
    have hm:i % z.length < z.length:=Nat.mod_lt _ (by omega)
    rw[List.getElem?_eq_getElem (by rw[repC_length];exact hi),List.getElem?_eq_getElem hm] at hg
    simp[hm,Option.some.inj hg]
theorem im_buildSlice (g:G M C n S h β a w) {o:Oper} (hd:∀d,o.dst=some d→d < n) {T:TypeId} {len:Nat} {parts:Array (Nat×Operand)} (ho:o.op=.buildSlice T len parts) {E:List PanicEntry→PH→Prop} {k:AS→PH→AV→Prop} (hk:imA M o.op S h E k):ImOk M C n a w o E k:=by
  rw[ho] at hk
  simp only[imA] at hk
  split at hk
  case h_2=>
    obtain⟨⟨z,t⟩,hz,hk⟩:=opt_iff.1 hk
    dsimp only at hk
    obtain⟨hlen,hl1,hk⟩:=hk
    obtain⟨cs,hcs,hk⟩:=opt_iff.1 hk
    obtain⟨e,i,hE,hi,hze,hsz,hzl,h1⟩:=mkB_some hz
    obtain⟨v,hv,hvc⟩:=zer_run hze w
    obtain⟨β',g1,g2,g'⟩:=g.push cs e
    refine .mk hd (v:=.slice (some ⟨w.heap.size,0,none⟩) len len) (x:=.s S.bx.length 0 len len) ?_ (.inr ((Below.refl _ _).alloc (Nat.le_refl _) _)) g' (.inr (by simp[cv,g2])) (fun i hi=>by cases hi;simp[AS.push]) hk
    have hfill:=fill_ok (place':=fun i=>some (i*partSize t,partSize t)) g (fun i off t' hp=>by cases hp;rfl) parts.toList (repC z len) cs hcs
    have hparts:(parts.map fun(i,x)=>(i,a.eval x)).toList=parts.toList.map fun p=>(p.1,a.eval p.2):=by simp
    have hle:¬(len*partSize t > 2^24):=by omega
    have hn0:¬(len*partSize t=0):=by
      have:=Nat.mul_pos (show 0 < len by omega) (show 0 < partSize t by omega)
      omega
    have hrow:(Array.range (len*partSize t)).map (fun x=>(v.cells)[x % (v.cells).size]!)=(repC z len).toArray:=by
      rw[hvc,←hsz,←hzl]
      exact zero_rows z len (by omega)
    simp only[execOp,ho,Instr.buildSlice,run_underlying hE,Sem.run_bind,Result.andThen_ok,sizeOf,typeInfo,run_program,hi,Sem.run_pure,hsz,Sem.run_ite,if_neg hle,if_neg hn0,hparts]
    rw[hv]
    simp only[Result.andThen_ok,Sem.run_pure,Sem.run_bind]
    rw[hrow,hfill]
    rfl
  rename_i z b hz
  obtain⟨hlen,hk⟩:=hk
  obtain⟨cs,hcs,hk⟩:=opt_iff.1 hk
  obtain⟨e,i,hE,hi,hb,hs,hzero,hzc,hb1⟩:=mk1_some hz
  obtain⟨β',g1,g2,g'⟩:=g.push cs e
  refine .mk hd (v:=.slice (some ⟨w.heap.size,0,none⟩) len len) (x:=.s S.bx.length 0 len len) ?_ (.inr ((Below.refl _ _).alloc (Nat.le_refl _) _)) g' (.inr (by simp[cv,g2])) (fun i hi=>by cases hi;simp[AS.push]) hk
  have hfill:=fill_ok (place':=fun i=>some (i*1,1)) g (fun i off t hp=>by cases hp;simp[partSize]) parts.toList (List.replicate len z) cs hcs
  have hparts:(parts.map fun(i,x)=>(i,a.eval x)).toList=parts.toList.map fun p=>(p.1,a.eval p.2):=by simp
  have hzr:=zero_row z len
  have hle:¬(len*1 > 2^24):=by omega
  have hrow:∀zz:Array Value,(len≠0→zz=#[z])→(Array.range (len*1)).map (fun x=>zz[x % zz.size]!)=(List.replicate len z).toArray:=by
    intro zz hzz
    by_cases h0:len=0
    · subst h0;simp[Array.range_zero']
    · rw[hzz h0,Nat.mul_one];exact hzr
  by_cases h0:len*1=0
  · simp only[execOp,ho,Instr.buildSlice,run_underlying hE,Sem.run_bind,Result.andThen_ok,sizeOf,typeInfo,run_program,hi,Sem.run_pure,hs,Sem.run_ite,if_neg hle,if_pos h0,hparts]
    rw[hrow #[] (by omega),hfill]
    rfl
  · simp only[execOp,ho,Instr.buildSlice,run_underlying hE,Sem.run_bind,Result.andThen_ok,sizeOf,typeInfo,run_program,hi,Sem.run_pure,hs,Sem.run_ite,if_neg hle,if_neg h0,hparts,zeroValue,hzero,hzc]
    rw[hrow #[z] (fun _=>rfl),hfill]
    rfl
end
end Go.Q
namespace Go.Q
open Go.RowKit (Below)
section
variable {M:Mach} {C:Ctx} {n:Nat} {S:AS} {h:PH} {β:Nat→Nat} {a:Act} {w:World}
theorem growBy_le (need:Nat):∀(r c:Nat),c≤need+(need+768) / 4→Builtin.growBy need r c≤need+(need+768) / 4:=by
  intro r
  induction r with
  |zero=>intro c h;exact h
  | succ r ih=>
    intro c h
    simp only[Builtin.growBy]
    split
    · exact h
    · exact ih _ (by omega)
theorem next_le {need cap:Nat} (h:cap < need):Builtin.nextslicecap need cap≤2*need+1024:=by
  unfold Builtin.nextslicecap
  split
  · omega
  · split
    · omega
    · have:=growBy_le need 4 cap (by omega);omega
theorem zeroCells_one (z:Value) (n:Nat):Builtin.zeroCells #[z] n=(List.replicate n z).toArray:=by
  unfold Builtin.zeroCells
  have:=zero_row z n
  simpa using this
theorem below_drew (w:World):Below w.heap.size w w.drew:=(Below.refl _ _).drew
theorem G.move (g:G M C n S h β a w) {i:Nat} {cs:List Value} (hi:S.bx[i]?=some cs):
    ∃β',β' S.bx.length=β i∧G M C n ((S.setBox i []).push cs) h β' a w:=by
  have hlen:i < S.bx.length:=(List.getElem?_eq_some_iff.1 hi).1
  refine⟨fun j=>if j=S.bx.length then β i else β j,by simp,?_⟩
  have hget:∀(j:Nat) (cj:List Value),((S.setBox i []).push cs).bx[j]?=some cj→cj≠[]→(j=S.bx.length∧cj=cs)∨(j≠S.bx.length∧j≠i∧S.bx[j]?=some cj):=by
    intro j cj hj hn
    simp only[AS.push,AS.setBox] at hj
    rcases Nat.lt_trichotomy j S.bx.length with hl |hl |hl
    · rw[List.getElem?_append_left (by simpa using hl)] at hj
      by_cases hji:j=i
      · subst hji;rw[List.getElem?_set_self hlen] at hj;exact(hn (Option.some.inj hj).symm).elim
      · rw[List.getElem?_set_ne (Ne.symm hji)] at hj;exact .inr ⟨by omega,hji,hj⟩
    · subst hl
      rw[List.getElem?_append_right (by simp)] at hj
      simp at hj
      exact .inl ⟨rfl,hj.symm⟩
    · rw[List.getElem?_append_right (by simp;omega)] at hj
      rw[List.getElem?_eq_none (by simp;omega)] at hj;cases hj
  refine⟨g.size,g.defers,g.fine,fun j cj hj hn=>?_,fun p q cp cq hp hq hnp hnq hpq=>?_,fun t=>?_,fun t q hq=>?_,?_,fun j hj=>?_⟩
  · rcases hget j cj hj hn with⟨rfl,rfl⟩ |⟨h1,h2,h3⟩
    · simp only[if_true];exact g.boxes i _ hi hn
    · simp only[if_neg h1];exact g.boxes j cj h3 hn
  · rcases hget p cp hp hnp with⟨hp1,hp2⟩ |⟨h1,h2,h3⟩<;>rcases hget q cq hq hnq with⟨hq1,hq2⟩ |⟨k1,k2,k3⟩
    · omega
    · subst hp2
      simp only[if_pos hp1,if_neg k1] at hpq
      exact(k2 (g.inj i q _ _ hi k3 hnp hnq hpq).symm).elim
    · subst hq2
      simp only[if_neg h1,if_pos hq1] at hpq
      exact(h2 (g.inj p i _ _ h3 hi hnp hnq hpq)).elim
    · simp only[if_neg h1,if_neg k1] at hpq
      exact g.inj p q cp cq h3 k3 hnp hnq hpq
  · have hw:=g.wf t
    rcases g.slots t with hs |hs
    · exact .inl hs
    · refine .inr ?_
      rw[hs]
      simp only[AS.push,AS.setBox]
      cases hx:lk S.sl t with
      |top=>rfl
      |v x=>rfl
      |p j off=>have:=hw j (by rw[hx];rfl);simp only[cv,if_neg (show ¬j=S.bx.length by omega)]
      |s j off len cap=>have:=hw j (by rw[hx];rfl);simp only[cv,if_neg (show ¬j=S.bx.length by omega)]
  · have:=g.wf t q hq
    simp only[AS.push,AS.setBox,List.length_append,List.length_set]
    omega
  · have:=g.pin.1
    simp only[AS.push,AS.setBox,List.length_append,List.length_set]
    omega
  · have:=g.pin.1
    simp only[if_neg (show ¬j=S.bx.length by omega)]
    exact g.pin.2 j hj
theorem G.kill (g:G M C n S h β a w) (i:Nat):G M C n (S.setBox i []) h β a w:=by
  have hget:∀(j:Nat) (cj:List Value),(S.setBox i []).bx[j]?=some cj→cj≠[]→S.bx[j]?=some cj:=by
    intro j cj hj hn
    simp only[AS.setBox] at hj
    by_cases hji:j=i
    · subst hji
      rcases Nat.lt_or_ge j S.bx.length with hl |hl
      · rw[List.getElem?_set_self hl] at hj;exact(hn (Option.some.inj hj).symm).elim
      · rw[List.getElem?_eq_none (by simpa using hl)] at hj;cases hj
    · rw[List.getElem?_set_ne (Ne.symm hji)] at hj;exact hj
  exact⟨g.size,g.defers,g.fine,fun j cj hj hn=>g.boxes j cj (hget j cj hj hn) hn,fun p q cp cq hp hq hnp hnq=>g.inj p q cp cq (hget p cp hp hnp) (hget q cq hq hnq) hnp hnq,g.slots,fun t q hq=>by
    have:=g.wf t q hq
    simpa[AS.setBox] using this,by simpa[AS.setBox] using g.pin⟩
theorem spl_eq:∀(vs cs:List Value) (off:Nat),off+vs.length≤cs.length→spl cs off vs=cs.take off ++vs ++cs.drop (off+vs.length):=by
  intro vs
  induction vs with
  |nil=>intro cs off _;simp[spl]
  | cons v vs ih=>
    intro cs off hle
    simp only[List.length_cons] at hle
    rw[spl,ih _ _ (by simp;omega)]
    rw[List.take_add_one,List.getElem?_set_self (by omega),List.take_set_of_le (Nat.le_refl _),List.drop_set_of_lt (by omega)]
    simp[Nat.add_assoc,Nat.add_comm 1]
theorem src_run (g:G M C n S h β a w) {y:Operand} {k:Nat→List Value→Prop} (hk:srcA S h (S.ev y) k):
    ∃ (ad:Option Addr) (m cap:Nat) (news:List Value),a.eval y=.slice ad m cap∧news.length=m∧k m news∧
      (∀w',G M C n S h β a w'→(Builtin.firstCells 1 m (.slice ad m cap)).run M.P w'=.ok news.toArray w'):=by
  unfold srcA at hk
  split at hk
  · rename_i ad m cap hy
    obtain⟨news,hl,hc,hk⟩:=hk
    refine⟨ad,m,cap,news,g.ev_v hy,hl,hk,fun w' g'=>?_⟩
    by_cases hm:m=0
    · subst hm
      obtain rfl:news=[]:=List.length_eq_zero_iff.1 hl
      cases ad<;>simp[Builtin.firstCells,loadCells,loadCellsFrom]
    · obtain⟨ad',rfl,hc'⟩:=hc hm
      simp only[Builtin.firstCells,Nat.mul_one]
      rw[←hl]
      exact run_loadCells_list _ _ news (fun j v hj=>g'.fine.has.cell (hc' j v hj))
  · rename_i i off m cap hy
    obtain⟨hle,hk⟩:=hk
    have hi:i < S.bx.length:=g.wf_ev (by rw[hy];rfl)
    have hl:(((S.box i).drop off).take m).length=m:=by simp;omega
    refine⟨_,m,cap,_,g.ev_s hy,hl,hk,fun w' g'=>?_⟩
    simp only[Builtin.firstCells,Nat.mul_one]
    have:=run_loadCells_list (P:=M.P) (w:=w') ⟨β i,off,none⟩ (((S.box i).drop off).take m) (fun j v hj=>by
      rw[add_none]
      refine g'.box_get hi ?_
      rw[List.getElem?_take] at hj
      split at hj
      · rw[List.getElem?_drop] at hj;exact hj
      · cases hj)
    rw[hl] at this
    exact this
  · exact hk.elim
theorem append_front {P:Program} {T U E e':TypeId} {i:TypeInfo} (hT:P.underlying T=some (.slice E)) (hU:P.underlying U=some (.slice e')) (hi:P.info? E=some i) (hs:i.size=1) (hb:1≤i.bytes) {base ad:Option Addr} {len cap m c:Nat} {w:World}:
    (len+m≤cap→∀(news:Array Value) (w':World),(Builtin.firstCells 1 m (.slice ad m c)).run P w=.ok news w→(match base with |some a=>storeCells (a.add (len*1)) news.toList |none=>pure ():Sem Unit).run P w=.ok () w'→
      (Builtin.append_ #[T,U] T #[.slice base len cap,.slice ad m c]).run P w=.ok (.slice base (len+m) cap) w'):=by
  intro hle news w' hn hst
  simp only[Builtin.append_,Sem.run_bind,run_underlying hT,run_underlying hU,Result.andThen_ok,Sem.run_pure,sizeOf,typeInfo,run_program,hi,hs,Builtin.lenOf,
    List.getElem?_toArray,List.getElem?_cons_zero,List.getElem?_cons_succ,Bool.false_eq_true,if_false,Bool.not_false,if_true,hle,hn]
  cases base with
  | none=>
    simp only[Sem.run_pure,Result.ok.injEq,true_and] at hst
    subst hst
    rfl
  | some ad=>
    simp only at hst
    simp only[Sem.run_bind,hst,Result.andThen_ok,Sem.run_pure]
theorem append_grow {P:Program} {T U E e':TypeId} {i:TypeInfo} {z:Value} (hT:P.underlying T=some (.slice E)) (hU:P.underlying U=some (.slice e')) (hi:P.info? E=some i) (hs:i.size=1) (hb:1≤i.bytes)
    (hz:i.zero=some z) (hzc:z.cells=#[z]) {base ad:Option Addr} {len cap m c:Nat} {w:World} (hlt:cap < len+m) (hroom:(2*(len+m)+1024)*i.bytes≤2^48) {old news:Array Value}
    (ho:(Builtin.firstCells 1 len (.slice base len cap)).run P w.drew=.ok old w.drew) (hn:(Builtin.firstCells 1 m (.slice ad m c)).run P w.drew=.ok news w.drew):
    ∃j:Nat,(Builtin.append_ #[T,U] T #[.slice base len cap,.slice ad m c]).run P w=.ok (.slice (some ⟨w.heap.size,0,none⟩) (len+m) (len+m+j)) (w.drew.alloc (.cells (old ++news ++(List.replicate j z).toArray) E)):=by
  have h1:¬(len+m≤cap):=by omega
  have h2:¬(((len+m:Nat):Int) > IntKind.i64.max∧(i.bytes=0)):=by omega
  have h3:¬(Builtin.nextslicecap (len+m) cap*i.bytes > 2^48):=by
    have:=Nat.mul_le_mul_right i.bytes (next_le hlt)
    omega
  refine⟨w.tape w.drawn (.appendCap (len+m) cap E) % (2^63 - (len+m)),?_⟩
  simp only[Builtin.append_,Sem.run_bind,run_underlying hT,run_underlying hU,Result.andThen_ok,Sem.run_pure,sizeOf,typeInfo,run_program,hi,hs,Builtin.lenOf,
    List.getElem?_toArray,List.getElem?_cons_zero,List.getElem?_cons_succ,Bool.false_eq_true,if_false,Bool.not_false,if_true,h1,false_or,h2,h3,run_choose,Question.forced,Question.cut,World.drew_eq,run_askRoom,ho,hn,
    zeroValue,hz,hzc,zeroCells_one,Nat.add_sub_cancel_left,newRow,run_newObj,World.alloc_eq,World.size_drew]
theorem im_append (g:G M C n S h β a w) {o:Oper} (hd:∀d,o.dst=some d→d < n) {args:Array Operand} {ts:Array TypeId} (ho:o.op=.call {callee:=.builtin .append,args,argTypes:=ts}) {E:List PanicEntry→PH→Prop} {k:AS→PH→AV→Prop} (hk:imA M o.op S h E k):ImOk M C n a w o E k:=by
  have hcls:cls o.op=2:=by rw[ho];rfl
  rw[ho] at hk
  simp only[imA] at hk
  split at hk
  · rename_i x y T U hargs hts
    obtain rfl:args=#[x,y]:=by apply Array.ext';simpa using hargs
    obtain rfl:ts=#[T,U]:=by apply Array.ext';simpa using hts
    obtain⟨hU,hk⟩:=hk
    obtain⟨⟨z,b⟩,hz,hk⟩:=opt_iff.1 hk
    dsimp only at hk
    obtain⟨e,i,hE,hi,hb,hs,hzero,hzc,hb1⟩:=mk1_some hz
    obtain⟨e',hE'⟩:=uk_slice hU
    obtain⟨ad,m,c,news,hy,hl,hk,hsrc⟩:=src_run g hk
    obtain⟨hall,hk⟩:=hk
    have hexec:∀v,a.eval x=v→execOp a.eval o=(do pure (.value (←Builtin.append_ #[T,U] o.type #[v,.slice ad m c])):Sem Next):=by
      intro v hv
      subst hv
      simp[execOp,ho,resolve,invoke,builtin,hy]
    have hty:∀(t:TypeId) (vs:Array Value),Builtin.append_ #[T,U] t vs=Builtin.append_ #[T,U] T vs:=fun _ _=>rfl
    have hgrown:∀(base:Option Addr) (len cap:Nat) (old:List Value) (S':AS) (β1:Nat→Nat),a.eval x=.slice base len cap→cap < len+m→(2*(len+m)+1024)*b≤2^48→
        (∀w',G M C n S h β a w'→(Builtin.firstCells 1 len (.slice base len cap)).run M.P w'=.ok old.toArray w')→G M C n S' h β1 a w.drew→S'.bx.length=S.bx.length→
        (∀junk:List Value,k (S'.push (old ++news ++junk)) h (.s S.bx.length 0 (len+m) (len+m+junk.length)))→ImOk M C n a w o E k:=by
      intro base len cap old S' β1 hx hlt hroom hold g1 hlen hk
      have gd:=g.below (below_drew w)
      obtain⟨j,hj⟩:=append_grow hE hE' hi hs (by omega) hzero hzc hlt (by rw[hb];exact hroom) (hold _ gd) (hsrc _ gd)
      obtain⟨β',b1,b2,g'⟩:=g1.push (old ++news ++List.replicate j z) e
      refine .mk hd (v:=.slice (some ⟨w.heap.size,0,none⟩) (len+m) (len+m+j)) (x:=.s S.bx.length 0 (len+m) (len+m+(List.replicate j z).length)) ?_ (.inl hcls) (β':=β') (S':=S'.push (old ++news ++List.replicate j z)) (w':=w.drew.alloc (.cells (old ++news ++List.replicate j z).toArray e)) g' (.inr ?_) ?_ (hk _)
      · have hc:old.toArray ++news.toArray ++(List.replicate j z).toArray=(old ++news ++List.replicate j z).toArray:=by simp
        rw[hc] at hj
        rw[hexec _ hx]
        simp only[Sem.run_bind,hty,hj,Result.andThen_ok,Sem.run_pure,List.length_replicate]
      · simp only[cv,←hlen,b2,World.size_drew,List.length_replicate]
      · intro i hi;cases hi;simp[AS.push,hlen]
    split at hk
    · rename_i hx
      obtain⟨hk0,hk1⟩:=hk
      by_cases hm:m=0
      · have hk:=hk0 hm
        subst hm
        refine .mk hd (v:=.slice none 0 0) (x:=.v (.slice none 0 0)) (w':=w) ?_ (.inl hcls) g (.inr rfl) (fun i hi=>by cases hi) hk
        rw[hexec _ (g.ev_v hx)]
        simp only[Sem.run_bind,hty]
        rw[append_front hE hE' hi hs (by omega) (Nat.le_refl _) news.toArray w (hsrc _ g) rfl]
        rfl
      · obtain⟨hroom,hk⟩:=hk1 hm
        refine hgrown none 0 0 [] S β (g.ev_v hx) (by omega) (by simpa using hroom) (fun w' _=>by simp[Builtin.firstCells]) (g.below (below_drew w)) rfl (fun junk=>?_)
        have:=hk junk
        simpa using this
    · rename_i i' off len cap hx
      obtain⟨rfl,hlc,hcap,hroom,hk⟩:=hk
      have hi':i' < S.bx.length:=g.wf_ev (by rw[hx];rfl)
      have hget:S.bx[i']?=some (S.box i'):=by simp[AS.box,hi']
      by_cases hle:len+m≤cap
      · -- there is room
        have hkj:=hk ((S.box i').drop (len+m))
        have hjl:len+m+((S.box i').drop (len+m)).length=cap:=by simp;omega
        rw[hjl] at hkj
        have hspl:(S.box i').take len ++news ++(S.box i').drop (len+m)=spl (S.box i') len news:=by
          rw[spl_eq _ _ _ (by omega),hl]
        rw[hspl] at hkj
        by_cases hne:S.box i'=[]
        · have hc0:cap=0:=by rw[hcap,hne];rfl
          have hm0:m=0:=by omega
          subst hm0
          obtain rfl:news=[]:=List.length_eq_zero_iff.1 hl
          obtain⟨β',b1,g'⟩:=g.move hget
          refine .mk hd (v:=.slice (some ⟨β i',0,none⟩) (len+0) cap) (x:=.s S.bx.length 0 (len+0) cap) (w':=w) ?_ (.inl hcls) g' (.inr (by simp[cv,b1])) (fun q hq=>by cases hq;simp[AS.push,AS.setBox]) hkj
          rw[hexec _ (g.ev_s hx)]
          simp only[Sem.run_bind,hty]
          rw[append_front hE hE' hi hs (by omega) hle #[] w (hsrc _ g) rfl]
          rfl
        · obtain⟨T',hw⟩:=(g.boxes i' _ hget hne).row
          obtain⟨w',h1,h2,h3⟩:=run_storeCells_row (P:=M.P) news (S.box i') len 0 w hw (by omega) hall
          have g1:=g.setBox hget hne (cs':=spl (S.box i') len news) (by rw[spl_length]) (by simpa using h2) h3
          obtain⟨β',b1,g'⟩:=g1.move (i:=i') (cs:=spl (S.box i') len news) (by simp[AS.setBox,hi'])
          have hset:(S.setBox i' (spl (S.box i') len news)).setBox i' []=S.setBox i' []:=by simp[AS.setBox]
          have hlen:(S.setBox i' (spl (S.box i') len news)).bx.length=S.bx.length:=by simp[AS.setBox]
          rw[hset] at g'
          rw[hlen] at b1
          refine .mk hd (v:=.slice (some ⟨β i',0,none⟩) (len+m) cap) (x:=.s S.bx.length 0 (len+m) cap) (w':=w') ?_ (.inl hcls) g' (.inr (by simp[cv,b1])) (fun q hq=>by cases hq;simp[AS.push,AS.setBox]) hkj
          rw[hexec _ (g.ev_s hx)]
          simp only[Sem.run_bind,hty]
          rw[append_front hE hE' hi hs (by omega) hle news.toArray w' (hsrc _ g) (by simpa[add_none] using h1)]
          rfl
      · refine hgrown (some ⟨β i',0,none⟩) len cap ((S.box i').take len) (S.setBox i' []) β (g.ev_s hx) (by omega) hroom (fun w' g'=>?_) ((g.below (below_drew w)).kill i') (by simp[AS.setBox]) hk
        simp only[Builtin.firstCells,Nat.mul_one]
        have hl2:((S.box i').take len).length=len:=by simp;omega
        have:=run_loadCells_list (P:=M.P) (w:=w') ⟨β i',0,none⟩ ((S.box i').take len) (fun j v hj=>by
          rw[add_none]
          refine g'.box_get hi' ?_
          rw[List.getElem?_take] at hj
          split at hj
          · simpa using hj
          · cases hj)
        rw[hl2] at this
        exact this
    · exact hk.elim
  · exact hk.elim
theorem im_copy (g:G M C n S h β a w) {o:Oper} (hd:∀d,o.dst=some d→d < n) {args:Array Operand} {ts:Array TypeId} (ho:o.op=.call {callee:=.builtin .copy,args,argTypes:=ts}) {E:List PanicEntry→PH→Prop} {k:AS→PH→AV→Prop} (hk:imA M o.op S h E k):ImOk M C n a w o E k:=by
  have hcls:cls o.op=2:=by rw[ho];rfl
  rw[ho] at hk
  simp only[imA] at hk
  split at hk
  · rename_i x y T ts' hargs hts
    obtain rfl:args=#[x,y]:=by apply Array.ext';simpa using hargs
    obtain rfl:ts=(T :: ts').toArray:=by apply Array.ext';simpa using hts
    obtain⟨⟨z,b⟩,hz,hk⟩:=opt_iff.1 hk
    obtain⟨e,i,hE,hi,hb,hs,hzero,hzc,hb1⟩:=mk1_some hz
    unfold copA at hk
    split at hk
    · rename_i i' off dlen cap ad m c hx hy
      obtain⟨news,hl,hc,hall,hlt,hle,hk⟩:=hk
      have hi':i' < S.bx.length:=g.wf_ev (by rw[hx];rfl)
      have hget:S.bx[i']?=some (S.box i'):=by simp[AS.box,hi']
      have hne:S.box i'≠[]:=by intro q;rw[q] at hlt;simp at hlt
      have hsrc:(Builtin.firstCells 1 (min m dlen) (.slice ad m c)).run M.P w=.ok news.toArray w:=by
        by_cases hm:min m dlen=0
        · rw[hm] at hl
          obtain rfl:news=[]:=List.length_eq_zero_iff.1 hl
          rw[hm]
          cases ad<;>simp[Builtin.firstCells,loadCells,loadCellsFrom]
        · obtain⟨ad',rfl,hc'⟩:=hc (by omega)
          simp only[Builtin.firstCells,Nat.mul_one]
          rw[←hl]
          exact run_loadCells_list _ _ news (fun j v hj=>g.fine.has.cell (hc' j v hj))
      obtain⟨T',hw⟩:=(g.boxes i' _ hget hne).row
      obtain⟨w',h1,h2,h3⟩:=run_storeCells_row (P:=M.P) news (S.box i') off 0 w hw (by omega) hall
      have g1:=g.setBox hget hne (cs':=spl (S.box i') off news) (by rw[spl_length]) (by simpa using h2) h3
      refine .mk hd (v:=.int .i64 (min m dlen:Nat)) (x:=.v (.int .i64 (min m dlen:Nat))) (w':=w') ?_ (.inl hcls) g1 (.inr rfl) (fun q hq=>by cases hq) hk
      simp only[execOp,ho,resolve,invoke,builtin,List.map_toArray,List.map_cons,List.map_nil,g.ev_s hx,g.ev_v hy,Sem.run_bind,Sem.run_pure,Result.andThen_ok,Builtin.copy_,
        List.getElem?_toArray,List.getElem?_cons_zero,List.getElem?_cons_succ,run_underlying hE,Builtin.lenOf,sizeOf,typeInfo,run_program,hi,hs,Nat.min_def]
      have hmin:(if m≤dlen then m else dlen)=min m dlen:=(Nat.min_def ..).symm
      rw[hmin,hsrc]
      simp only[Result.andThen_ok,Sem.run_bind,h1,Sem.run_pure,goInt]
    · exact hk.elim
  · exact hk.elim
theorem im_sound (g:G M C n S h β a w) {o:Oper} (hd:∀d,o.dst=some d→d < n) {E:List PanicEntry→PH→Prop} {k:AS→PH→AV→Prop} (hk:imA M o.op S h E k):ImOk M C n a w o E k:=by
  cases ho:o.op with
  |alloc T=>exact im_alloc g hd ho hk
  |box T x=>exact im_box g hd ho hk
  |store T x y=>exact im_store g hd ho hk
  |makeSlice T l c=>exact im_makeSlice g hd ho hk
  |buildSlice T len parts=>exact im_buildSlice g hd ho hk
  |panic x=>exact im_panic g ho hk
  | call c=>
    obtain⟨callee,args,ts⟩:=c
    cases callee with
    |value f=>exact im_call g hd ho hk
    | builtin b=>
      cases b<;>first
        |exact im_append g hd ho hk
        |exact im_copy g hd ho hk
        |(rw[ho] at hk;exact hk.elim)
    |_=>rw[ho] at hk;exact hk.elim
  |_=>rw[ho] at hk;exact hk.elim
end
end Go.Q
