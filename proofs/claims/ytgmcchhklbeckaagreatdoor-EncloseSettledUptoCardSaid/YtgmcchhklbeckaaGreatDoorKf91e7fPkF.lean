/-
  A region that draws its order, walked once: its allocations first, readers ahead of what they do not wait for; what stands behind an operation need not have come yet. Conditions: the check 'hoOk' holds; where a load may come behind a store, the two speak of different boxes.
-/
import Derived.Test.YtgmcchhklbeckaaGreatDoorK7d5fdaPkE
set_option linter.unusedVariables false
set_option linter.unusedSimpArgs false
open Nat renaming le_refl→η,lt_or_ge→qBj
open Bool renaming and_eq_true→φ
open List renaming length_append→qAp,mem_cons_self→qAt,mem_append→qAu,getD_eq_getElem?_getD→qAy,mem_singleton→qBc,all_eq_true→qBd
namespace Go.Q
open Go.RowKit (Below)
structure Pd where
 i:Nat
 d:Nat
 j:Nat
 z:List Value
structure Rd where
 i:Nat
 d:Nat
 x:AV
def Fv (P:List Pd) (x:AV):Prop:=∀p∈P,x.ix≠some p.j
def hid (P:List Pd) (R:List Rd) (t:Nat):Prop:=(∃p∈P,p.d=t)∨∃q∈R,q.d=t
structure Hd (P:List Pd) (R:List Rd) (S S':AS):Prop where
 len:S'.bx.length=S.bx.length
 lt:∀p∈P,p.j < S.bx.length
 box:∀i,(∀p∈P,p.j≠i)→S'.bx[i]?=S.bx[i]?
 no:∀p∈P,S'.bx[p.j]?=some []
 yes:∀p∈P,S.bx[p.j]?=some p.z
 slot:∀t,¬hid P R t→lk S'.sl t=lk S.sl t
 ptr:∀p∈P,lk S.sl p.d=.p p.j 0
 val:∀q∈R,lk S.sl q.d=q.x
 fresh:∀t,Fv P (lk S'.sl t)
 wf:∀t i,(lk S.sl t).ix=some i→i < S.bx.length
 apart:∀p∈P,∀q∈P,p.i=q.i∨p.j=q.j∨p.d=q.d→p=q
section
variable {P:List Pd} {R:List Rd} {S S':AS}
theorem Fv.v (v:Value):Fv P (.v v):=fun _ _ e=>by cases e
theorem Fv.t:Fv P .top:=fun _ _ e=>by cases e
theorem Hd.put (hd:Hd P R S S') (d:Option Nat) {x:AV} (hx:Fv P x) (hl:∀i,x.ix=some i→i < S.bx.length) (hn:∀k,d=some k→¬hid P R k):Hd P R (S.put d x) (S'.put d x):=by
 cases d with
 |none=>exact hd
 | some d=>
  have hnd:=hn d rfl
  refine⟨hd.len,hd.lt,hd.box,hd.no,hd.yes,fun t ht=>?_,fun p hp=>?_,fun q hq=>?_,fun t=>?_,fun t i hi=>?_,hd.apart⟩
  ·simp only[AS.put,lk_st]
   split
   ·rfl
   ·exact hd.slot t ht
  ·simp only[AS.put,lk_st,if_neg (fun e=>hnd (.inl ⟨p,hp,e⟩))]
   exact hd.ptr p hp
  ·simp only[AS.put,lk_st,if_neg (fun e=>hnd (.inr ⟨q,hq,e⟩))]
   exact hd.val q hq
  ·simp only[AS.put,lk_st]
   split
   ·exact hx
   ·exact hd.fresh t
  ·simp only[AS.put,lk_st] at hi ⊢
   split at hi
   ·exact hl i hi
   ·exact hd.wf t i hi
theorem Hd.setBox (hd:Hd P R S S') (i:Nat) (hi:∀p∈P,p.j≠i) (cs:List Value):Hd P R (S.setBox i cs) (S'.setBox i cs):=by
 refine⟨by simp[AS.setBox,hd.len],fun p hp=>by simpa[AS.setBox] using hd.lt p hp,fun k hk=>?_,fun p hp=>?_,fun p hp=>?_,hd.slot,hd.ptr,hd.val,hd.fresh,fun t k hk=>by simpa[AS.setBox] using hd.wf t k hk,hd.apart⟩
 ·simp only[AS.setBox,List.getElem?_set,hd.len]
  split
  ·rfl
  ·exact hd.box k hk
 ·simp only[AS.setBox]
  rw[List.getElem?_set_ne (Ne.symm (hi p hp))]
  exact hd.no p hp
 ·simp only[AS.setBox]
  rw[List.getElem?_set_ne (Ne.symm (hi p hp))]
  exact hd.yes p hp
theorem Hd.push (hd:Hd P R S S') (cs:List Value):Hd P R (S.push cs) (S'.push cs):=by
 refine⟨by simp[AS.push,hd.len],fun p hp=>by have:=hd.lt p hp;simp[AS.push];omega,fun k hk=>?_,fun p hp=>?_,fun p hp=>?_,hd.slot,hd.ptr,hd.val,hd.fresh,fun t k hk=>by have:=hd.wf t k hk;simp[AS.push];omega,hd.apart⟩
 ·simp only[AS.push,List.getElem?_append,hd.len]
  split
  ·exact hd.box k hk
  ·rfl
 ·simp only[AS.push,List.getElem?_append]
  rw[if_pos (by rw[hd.len];exact hd.lt p hp)]
  exact hd.no p hp
 ·simp only[AS.push,List.getElem?_append]
  rw[if_pos (hd.lt p hp)]
  exact hd.yes p hp
theorem Hd.boxeq (hd:Hd P R S S') {i:Nat} (hi:∀p∈P,p.j≠i):S'.box i=S.box i:=by
 simp only[AS.box,qAy,hd.box i hi]
def opn:Op→Option (List Operand)
 |.move x=>some [x]
 |.assign x=>some [x]
 |.pick c x y=>some [c,x,y]
 |.load _ x=>some [x]
 |.binOp _ _ x y _=>some [x,y]
 |.unOp _ _ x=>some [x]
 |.convert _ _ x=>some [x]
 |.fieldAddr _ x _=>some [x]
 |.field _ x _=>some [x]
 |.indexAddr _ x i=>some [x,i]
 |.index _ x i=>some [x,i]
 |.extract x _=>some [x]
 |.slice _ x lo hi none=>some (x :: (lo.toList ++hi.toList))
 |.makeInterface _ x=>some [x]
 |.makeFunc _ a b=>some (a.toList ++b.toList)
 |.build _ ps=>some (ps.toList.map (·.2))
 |.call ⟨.builtin .len,args,_⟩=>some args.toList
 |.call ⟨.builtin .min,args,_⟩=>some args.toList
 |.call ⟨.builtin .max,args,_⟩=>some args.toList
 |.call ⟨.value f,args,_⟩=>some (f :: args.toList)
 |.store _ x y=>some [x,y]
 |_=>none
def EvOk (P:List Pd) (S S':AS) (x:Operand):Prop:=S'.ev x=S.ev x∧Fv P (S.ev x)
theorem Hd.ev (hd:Hd P R S S') {x:Operand} (h:∀t,x=.tmp t→¬hid P R t):EvOk P S S' x:=by
 cases x with
 | tmp t=>
  have e:=hd.slot t (h t rfl)
  exact⟨e,by show Fv P (lk S.sl t);rw[←e];exact hd.fresh t⟩
 |const c=>exact⟨rfl,Fv.v _⟩
 |global g=>exact⟨rfl,Fv.v _⟩
 |func f=>exact⟨rfl,Fv.v _⟩
theorem Hd.wfev (hd:Hd P R S S') (x:Operand):∀i,(S.ev x).ix=some i→i < S.bx.length:=by
 cases x with
 |tmp t=>exact hd.wf t
 |const c=>exact fun _ e=>by cases e
 |global g=>exact fun _ e=>by cases e
 |func f=>exact fun _ e=>by cases e
theorem IV {Q:Program} {op:BinOp} {T:TypeId} {x y:AV} {k k':Value→Prop} (hm:∀v,k v→k' v) (hk:binA Q op T x y k):binA Q op T x y k':=by
 obtain⟨u,v,rfl,rfl,_,_⟩:=rR hk
 cases u with
 | int K a=>
  cases v with
  |int K' b=>cases op<;>first |exact hk.elim |exact hk.2.elim |exact⟨hk.1,hm _ hk.2⟩ |exact⟨hk.1,hk.2.1,hm _ hk.2.2⟩
  |_=>exact hk.elim
 | bool a=>
  cases v with
  |bool b=>cases op<;>first |exact hk.elim |exact⟨hk.1,hm _ hk.2⟩
  |_=>exact hk.elim
 | string a=>
  cases v with
  |string b=>cases op<;>first |exact hk.elim |exact hm _ hk |exact⟨hk.1,hm _ hk.2⟩
  |_=>exact hk.elim
 | slice a m c=>
  cases v with
  |slice b m' c'=>cases b<;>first |exact hk.elim |(cases op<;>first |exact hk.elim |exact⟨hk.1,hm _ hk.2⟩)
  |_=>exact hk.elim
 |_=>exact hk.elim
theorem binA_val {Q:Program} {op:BinOp} {T:TypeId} {x y:AV} {k:Value→Prop} (hk:binA Q op T x y k):∃v,k v∧binA Q op T x y (fun u=>u=v):=by
 obtain⟨u,v,rfl,rfl,_,_⟩:=rR hk
 cases u with
 | int K a=>
  cases v with
  |int K' b=>cases op<;>first |exact hk.elim |exact hk.2.elim |exact⟨_,hk.2,hk.1,rfl⟩ |exact⟨_,hk.2.2,hk.1,hk.2.1,rfl⟩
  |_=>exact hk.elim
 | bool a=>
  cases v with
  |bool b=>cases op<;>first |exact hk.elim |exact⟨_,hk.2,hk.1,rfl⟩
  |_=>exact hk.elim
 | string a=>
  cases v with
  |string b=>cases op<;>first |exact hk.elim |exact⟨_,hk,rfl⟩ |exact⟨_,hk.2,hk.1,rfl⟩
  |_=>exact hk.elim
 | slice a m c=>
  cases v with
  |slice b m' c'=>cases b<;>first |exact hk.elim |(cases op<;>first |exact hk.elim |exact⟨_,hk.2,hk.1,rfl⟩)
  |_=>exact hk.elim
 |_=>exact hk.elim
def Fb (B:Nat→Prop) (x:AV):Prop:=∀i,x.ix=some i→¬B i
theorem Fb.v {B:Nat→Prop} (v:Value):Fb B (.v v):=fun _ e=>by cases e
theorem yg {xs:List Operand} (h:∀x∈xs,S'.ev x=S.ev x):xs.map S'.ev=xs.map S.ev:=List.map_congr_left h
theorem Hr {ps:List (Nat×Operand)} (h:∀x∈ps.map (·.2),S'.ev x=S.ev x):ps.map (fun p=>(p.1,S'.ev p.2))=ps.map (fun p=>(p.1,S.ev p.2)):=List.map_congr_left fun x hx=>by rw[h x.2 (List.mem_map_of_mem hx)]
theorem wm {o:Option Operand} (h:∀x∈o.toList,S'.ev x=S.ev x):o.map S'.ev=o.map S.ev:=by
 cases o with
 |none=>rfl
 |some x=>simp only[Option.map_some];rw[h x (by simp)]
theorem rdV {M : Mach} {op:Op} {h h':PH} {κ:AV→Prop} {xs:List Operand} (B:Nat→Prop) (hb:∀i,¬B i→S'.box i=S.box i) (hs:Sub h h') (hx:opn op=some xs) (ho:∀x∈xs,S'.ev x=S.ev x∧Fb B (S.ev x)) (hk:rdA M op S h κ):∃x,Fb B x∧κ x∧rdA M op S' h' (fun y=>y=x):=by
  cases op with
  |move x=>cases hx;obtain⟨e,f⟩:=ho x (by simp);simp only[rdA] at hk ⊢;rw[e];(refine⟨_,?_,hk,rfl⟩;exact f)
  |assign x=>cases hx;obtain⟨e,f⟩:=ho x (by simp);simp only[rdA] at hk ⊢;rw[e];(refine⟨_,?_,hk,rfl⟩;exact f)
  | pick c x y=>
    cases hx
    obtain⟨e,f⟩:=ho c (by simp)
    obtain⟨e1,f1⟩:=ho x (by simp)
    obtain⟨e2,f2⟩:=ho y (by simp)
    simp only[rdA] at hk ⊢
    rw[e,e1,e2]
    cases hv:S.ev c with
    | v u=>
      rw[hv] at hk
      cases u<;>first |exact hk.elim |skip
      rename_i t
      cases t
      · (refine⟨_,?_,hk,rfl⟩;exact f2)
      · (refine⟨_,?_,hk,rfl⟩;exact f1)
    |_=>rw[hv] at hk;exact hk.elim
  | load T x=>
    cases hx
    obtain⟨e,f⟩:=ho x (by simp)
    simp only[rdA] at hk ⊢
    rw[e]
    cases hv:S.ev x with
    | p i off=>
      rw[hv] at hk f
      have hbx:S'.box i=S.box i:=hb i (f i rfl)
      simp only[opt_iff] at hk ⊢
      obtain⟨t,h1,v,h2,h3⟩:=hk
      exact⟨_,Fb.v _,h3,t,h1,v,by rw[hbx];exact h2,rfl⟩
    | v u=>
      rw[hv] at hk
      cases u<;>first |exact hk.elim |skip
      rename_i u
      cases u<;>first |exact hk.elim |skip
      simp only[opt_iff] at hk ⊢
      obtain⟨t,h1,h2⟩:=hk
      cases t with
      |none=>obtain⟨v,h3,h4⟩:=h2;exact⟨_,Fb.v _,h4,none,h1,v,hs.at h3,rfl⟩
      |some m=>obtain⟨cs,h3,h4,h5⟩:=h2;exact⟨_,Fb.v _,h5,some m,h1,cs,h3,fun j v e=>hs.at (h4 j v e),rfl⟩
    |_=>rw[hv] at hk;exact hk.elim
  | binOp o T x y U=>
    cases hx
    obtain⟨e,f⟩:=ho x (by simp)
    obtain⟨e1,f1⟩:=ho y (by simp)
    simp only[rdA] at hk ⊢
    rw[e,e1]
    obtain⟨v,h1,h2⟩:=binA_val hk
    exact⟨.v v,Fb.v _,h1,IV (fun u e=>by rw[e]) h2⟩
  | unOp o T x=>
    cases hx
    obtain⟨e,f⟩:=ho x (by simp)
    simp only[rdA] at hk ⊢
    rw[e]
    cases hv:S.ev x with
    | v u=>
      rw[hv] at hk
      cases o<;>cases u<;>first |exact hk.elim |exact⟨_,Fb.v _,hk,rfl⟩
    |_=>rw[hv] at hk;cases o<;>exact hk.elim
  | convert T U x=>
    cases hx
    obtain⟨e,f⟩:=ho x (by simp)
    simp only[rdA] at hk ⊢
    rw[e]
    cases h1:uk M.P T<;>rw[h1] at hk<;>first |exact hk.elim |skip
    cases h2:uk M.P U<;>rw[h2] at hk<;>first |exact hk.elim |skip
    cases hv:S.ev x with
    |v u=>rw[hv] at hk;cases u<;>first |exact hk.elim |exact⟨_,Fb.v _,hk,rfl⟩
    |_=>rw[hv] at hk;exact hk.elim
  | fieldAddr T x fl=>
    cases hx
    obtain⟨e,f⟩:=ho x (by simp)
    simp only[rdA,opt_iff] at hk ⊢
    rw[e]
    obtain⟨o,h1,hk⟩:=hk
    cases hv:S.ev x with
    |p i off=>rw[hv] at hk f;(refine⟨_,?_,hk,o,h1,rfl⟩;exact f)
    | v u=>
      rw[hv] at hk
      cases u<;>first |exact hk.elim |skip
      rename_i u
      cases u<;>first |exact hk.elim |exact⟨_,Fb.v _,hk,o,h1,rfl⟩
    |_=>rw[hv] at hk;exact hk.elim
  | field T x fl=>
    cases hx
    obtain⟨e,f⟩:=ho x (by simp)
    simp only[rdA] at hk ⊢
    rw[e]
    cases hv:S.ev x with
    | v u=>
      rw[hv] at hk
      cases u<;>first |exact hk.elim |skip
      simp only[opt_iff] at hk ⊢
      obtain⟨t,h1,v,h2,h3⟩:=hk
      exact⟨_,Fb.v _,h3,t,h1,v,h2,rfl⟩
    |_=>rw[hv] at hk;exact hk.elim
  | indexAddr T x i=>
    cases hx
    obtain⟨e,f⟩:=ho x (by simp)
    obtain⟨e1,f1⟩:=ho i (by simp)
    simp only[rdA,opt_iff] at hk ⊢
    rw[e,e1]
    obtain⟨o,h1,hk⟩:=hk
    cases hv:S.ev x with
    | p b off=>
      rw[hv] at hk f
      cases hw:S.ev i with
      | v u=>
        rw[hw] at hk
        cases u<;>first |exact hk.elim |skip
        simp only[opt_iff] at hk ⊢
        obtain⟨m,h2,h3,h4,h5⟩:=hk
        (refine⟨_,?_,h5,o,h1,m,h2,h3,h4,rfl⟩;exact f)
      |_=>rw[hw] at hk;exact hk.elim
    | s b off len cap=>
      rw[hv] at hk f
      cases hw:S.ev i with
      | v u=>
        rw[hw] at hk
        cases u<;>first |exact hk.elim |skip
        obtain⟨h2,h3,h4,h5⟩:=hk
        (refine⟨_,?_,h5,o,h1,h2,h3,h4,rfl⟩;exact f)
      |_=>rw[hw] at hk;exact hk.elim
    | v w =>
      rw[hv] at hk
      cases hw:S.ev i with
      | v u=>
        rw[hw] at hk
        cases w<;>first |exact hk.elim |skip
        · rename_i w
          cases w<;>cases u<;>first |exact hk.elim |skip
          simp only[opt_iff] at hk ⊢
          obtain⟨m,h2,h3,h4,h5⟩:=hk
          exact⟨_,Fb.v _,h5,o,h1,m,h2,h3,h4,rfl⟩
        · cases u<;>first |exact hk.elim |skip
          obtain⟨h2,ad,h3,h4,h5,h6⟩:=hk
          exact⟨_,Fb.v _,h6,o,h1,h2,ad,h3,h4,h5,rfl⟩
      |_=>rw[hw] at hk;(try cases w)<;>(try exact hk.elim)<;>(rename_i w;cases w<;>exact hk.elim)
    |top=>rw[hv] at hk;exact hk.elim
  | index T x i=>
    cases hx
    obtain⟨e,f⟩:=ho x (by simp)
    obtain⟨e1,f1⟩:=ho i (by simp)
    simp only[rdA] at hk ⊢
    rw[e,e1]
    cases hv:S.ev x with
    | v w =>
      rw[hv] at hk
      cases hw:S.ev i with
      | v u=>
        rw[hw] at hk
        cases w<;>cases u<;>first |exact hk.elim |skip
        · obtain⟨h1,h2,b,h3,h4⟩:=hk
          exact⟨_,Fb.v _,h4,h1,h2,b,h3,rfl⟩
        · simp only[opt_iff] at hk ⊢
          obtain⟨m,h2,e,h3,t,h4,h5,h6,v,h7,h8⟩:=hk
          exact⟨_,Fb.v _,h8,m,h2,e,h3,t,h4,h5,h6,v,h7,rfl⟩
      |_=>rw[hw] at hk;cases w<;>exact hk.elim
    |_=>rw[hv] at hk;exact hk.elim
  | extract x i=>
    cases hx
    obtain⟨e,f⟩:=ho x (by simp)
    simp only[rdA] at hk ⊢
    rw[e]
    cases hv:S.ev x with
    | v u=>
      rw[hv] at hk
      cases u<;>first |exact hk.elim |skip
      simp only[opt_iff] at hk ⊢
      obtain⟨v,h2,h3⟩:=hk
      exact⟨_,Fb.v _,h3,v,h2,rfl⟩
    |_=>rw[hv] at hk;exact hk.elim
  | slice T x lo hi mx=>
    cases mx with
    |some _=>cases hx
    |none=>
    cases hx
    obtain⟨e,f⟩:=ho x (by simp)
    have e1:=wm (o:=lo) fun x hx=>(ho x (by simp at hx ⊢;exact .inr (.inl hx))).1
    have e2:=wm (o:=hi) fun x hx=>(ho x (by simp at hx ⊢;exact .inr (.inr hx))).1
    simp only[rdA] at hk ⊢
    rw[e,e1,e2]
    cases hv:S.ev x with
    | v u=>
      rw[hv] at hk
      cases u<;>first |exact hk.elim |skip
      simp only[opt_iff] at hk ⊢
      obtain⟨h1,a,h2,b,h3,c,h4,h5,h6,h7,h8⟩:=hk
      exact⟨_,Fb.v _,h8,h1,a,h2,b,h3,c,h4,h5,h6,h7,rfl⟩
    | s i off len cap=>
      rw[hv] at hk f
      simp only[opt_iff] at hk ⊢
      obtain⟨h1,a,h2,b,h3,c,h4,h5,h6,h7,h8⟩:=hk
      (refine⟨_,?_,h8,h1,a,h2,b,h3,c,h4,h5,h6,h7,rfl⟩;exact f)
    |_=>rw[hv] at hk;exact hk.elim
  | makeInterface T x=>
    cases hx
    obtain⟨e,f⟩:=ho x (by simp)
    simp only[rdA] at hk ⊢
    rw[e]
    cases hv:S.ev x with
    |v u=>rw[hv] at hk;exact⟨_,Fb.v _,hk.2,hk.1,rfl⟩
    |_=>rw[hv] at hk;exact hk.elim
  | makeFunc fn a b=>
    cases hx
    have e1:=yg (xs:=a.toList) fun x hx=>(ho x (List.mem_append_left _ hx)).1
    have e2:=yg (xs:=b.toList) fun x hx=>(ho x (List.mem_append_right _ hx)).1
    simp only[rdA,opt_iff] at hk ⊢
    rw[e1,e2]
    obtain⟨v,h1,u,h2,h3⟩:=hk
    exact⟨_,Fb.v _,h3,v,h1,u,h2,rfl⟩
  | build T ps=>
    cases hx
    have e1:=Hr (ps:=ps.toList) fun x hx=>(ho x hx).1
    simp only[rdA,opt_iff] at hk ⊢
    rw[e1]
    obtain⟨v,h1,h3⟩:=hk
    exact⟨_,Fb.v _,h3,v,h1,rfl⟩
  | call c =>
    obtain⟨callee,args,ts⟩:=c
    cases callee with
    | builtin b=>
      cases b<;>first |exact hk.elim |skip
      · cases hx
        simp only[rdA] at hk ⊢
        split at hk
        · rename_i x T h1 h2
          obtain⟨e,f⟩:=ho x (by rw[h1];simp)
          simp only[h1,h2,e,opt_iff] at hk ⊢
          obtain⟨v,h3,h4⟩:=hk
          exact⟨_,Fb.v _,h4,v,h3,rfl⟩
        · exact hk.elim
      all_goals first
        | (cases hx
           simp only[rdA] at hk ⊢
           split at hk
           · rename_i x y h1
             obtain⟨e,f⟩:=ho x (by rw[h1];simp)
             obtain⟨e1,f1⟩:=ho y (by rw[h1];simp)
             simp only[h1,e,e1] at hk ⊢
             cases hv:S.ev x with
             | v u=>
               rw[hv] at hk
               cases hw:S.ev y with
               | v w=>
                 rw[hw] at hk
                 cases u<;>first |exact hk.elim |skip
                 cases w<;>first |exact hk.elim |exact⟨_,Fb.v _,hk,rfl⟩
               |_=>rw[hw] at hk;cases u<;>exact hk.elim
             |_=>rw[hv] at hk;exact hk.elim
           · exact hk.elim)
    |_=>exact hk.elim
  |_=>exact hk.elim
def mf:Op→Bool
 |.load ..=>false
 |_=>true
theorem rdM {M:Mach} {op:Op} {h h':PH} {κ:AV→Prop} {xs:List Operand} (hm:mf op=true) (hx:opn op=some xs) (ho:∀x∈xs,S'.ev x=S.ev x) (hk:rdA M op S h κ):rdA M op S' h' κ:=by
 cases op with
 |load T x=>cases hm
 |move x=>cases hx;simp only[rdA] at hk ⊢;rw[ho x (by simp)];exact hk
 |assign x=>cases hx;simp only[rdA] at hk ⊢;rw[ho x (by simp)];exact hk
 |pick c x y=>cases hx;simp only[rdA] at hk ⊢;rw[ho c (by simp),ho x (by simp),ho y (by simp)];exact hk
 |binOp o T x y U=>cases hx;simp only[rdA] at hk ⊢;rw[ho x (by simp),ho y (by simp)];exact hk
 |unOp o T x=>cases hx;simp only[rdA] at hk ⊢;rw[ho x (by simp)];exact hk
 |convert T U x=>cases hx;simp only[rdA] at hk ⊢;rw[ho x (by simp)];exact hk
 |fieldAddr T x f=>cases hx;simp only[rdA] at hk ⊢;rw[ho x (by simp)];exact hk
 |field T x f=>cases hx;simp only[rdA] at hk ⊢;rw[ho x (by simp)];exact hk
 |indexAddr T x i=>cases hx;simp only[rdA] at hk ⊢;rw[ho x (by simp),ho i (by simp)];exact hk
 |index T x i=>cases hx;simp only[rdA] at hk ⊢;rw[ho x (by simp),ho i (by simp)];exact hk
 |extract x i=>cases hx;simp only[rdA] at hk ⊢;rw[ho x (by simp)];exact hk
 | slice T x lo hi mx=>
  cases mx with
  |some _=>cases hx
  | none=>
   cases hx
   simp only[rdA] at hk ⊢
   rw[ho x (by simp),wm (o:=lo) fun x hx=>ho x (by simp at hx ⊢;exact .inr (.inl hx)),wm (o:=hi) fun x hx=>ho x (by simp at hx ⊢;exact .inr (.inr hx))]
   exact hk
 |makeInterface T x=>cases hx;simp only[rdA] at hk ⊢;rw[ho x (by simp)];exact hk
 | makeFunc fn a b=>
  cases hx
  simp only[rdA] at hk ⊢
  rw[yg (xs:=a.toList) fun x hx=>ho x (List.mem_append_left _ hx),yg (xs:=b.toList) fun x hx=>ho x (List.mem_append_right _ hx)]
  exact hk
 | build T ps=>
  cases hx
  simp only[rdA] at hk ⊢
  rw[Hr (ps:=ps.toList) ho]
  exact hk
 | call c=>
  obtain⟨callee,args,ts⟩:=c
  cases callee with
  | builtin b=>
   cases b<;>first |exact hk.elim |skip
   ·cases hx
    simp only[rdA] at hk ⊢
    split at hk
    ·rename_i x T h1 h2
     simp only[h1,h2,ho x (by rw[h1];simp)] at hk ⊢
     exact hk
    ·exact hk.elim
   all_goals
    cases hx
    simp only[rdA] at hk ⊢
    split at hk
    ·rename_i x y h1
     simp only[h1,ho x (by rw[h1];simp),ho y (by rw[h1];simp)] at hk ⊢
     exact hk
    ·exact hk.elim
  |_=>exact hk.elim
 |_=>exact hk.elim
theorem uJ {i:Nat}:∀{l:List AV},dn i l=true→vals l=none→(∀x∈l,Fv P x)→∀p∈P,p.j≠i
 |[],_,h,_=>by cases h
 | .v x :: l,ho,h,hf=>by
  refine uJ (l:=l) ho ?_ fun y hy=>hf y (List.mem_cons_of_mem _ hy)
  simp only[vals] at h
  cases hl:vals l with
  |none=>rfl
  |some _=>rw[hl] at h;cases h
 | .p k off :: l,ho,_,hf=>fun p hp e=>hf _ (qAt ..) p hp (by
  simp only[dn,φ,beq_iff_eq] at ho
  simp[AV.ix,ho.1,e])
 | .s k off len cap :: l,ho,_,hf=>fun p hp e=>hf _ (qAt ..) p hp (by
  simp only[dn,φ,beq_iff_eq] at ho
  simp[AV.ix,ho.1,e])
 |.top :: l,ho,_,_=>by cases ho
structure Keep (op:Op) (S:AS) (h:PH) (S1:AS) (h1:PH):Prop where
 sub:Sub h h1
 sl:S1.sl=S.sl
 len:S.bx.length≤S1.bx.length
 box:(∀i,i < S.bx.length→S1.box i=S.box i)∨(cls op=2∧∀T x y,op=.store T x y→∀i,(S.ev x).ix≠some i→S1.box i=S.box i)
theorem Keep.refl {op:Op} {S:AS} {h h1:PH} (hs:Sub h h1):Keep op S h S h1:=⟨hs,rfl,η _,.inl fun _ _=>rfl⟩
theorem box_set {S:AS} {i k:Nat} (hk:i≠k) (cs:List Value):(S.setBox i cs).box k=S.box k:=by
 simp only[AS.box,AS.setBox,qAy,List.getElem?_set_ne hk]
theorem box_push {S:AS} {k:Nat} (hk:k < S.bx.length) (cs:List Value):(S.push cs).box k=S.box k:=by
 simp only[AS.box,AS.push,qAy,List.getElem?_append_left hk]
theorem imH {M:Mach} {op:Op} {h:PH} {E:List PanicEntry→PH→Prop} {κ:AS→PH→AV→Prop} {xs:List Operand} (hd:Hd P R S S') (hx:opn op=some xs) (ho:∀x∈xs,EvOk P S S' x) (hc:cls op≠0) (hk:imA M op S h E κ):
  imA M op S' h E (fun S1' h1 x=>∃S1,Hd P R S1 S1'∧Fv P x∧(∀i,x.ix=some i→i < S1.bx.length)∧Keep op S h S1 h1∧κ S1 h1 x):=by
 cases op with
 | store T x y=>
  cases hx
  obtain⟨e,f⟩:=ho x (by simp)
  obtain⟨e1,f1⟩:=ho y (by simp)
  simp only[imA] at hk ⊢
  rw[e,e1]
  cases hv:S.ev x with
  | p i off=>
   rw[hv] at hk f
   have hi:∀p∈P,p.j≠i:=fun p hp e=>f p hp (by rw[e];rfl)
   have hb:S'.box i=S.box i:=hd.boxeq hi
   cases hw:S.ev y with
   | v u=>
    rw[hw] at hk
    simp only[opt_iff] at hk ⊢
    obtain⟨t,h1,vs,h2,h3,h4,h5,h6⟩:=hk
    rw[hb]
    refine⟨t,h1,vs,h2,h3,h4,h5,_,hd.setBox i hi _,Fv.t,(fun _ e=>by cases e),⟨Sub.refl h,rfl,by simp[AS.setBox],.inr ⟨rfl,fun T' x' y' e k hk=>?_⟩⟩,h6⟩
    cases e
    exact box_set (fun e=>hk (by rw[hv,e];rfl)) _
   |_=>rw[hw] at hk;exact hk.elim
  |_=>rw[hv] at hk;exact hk.elim
 | call c=>
  obtain⟨callee,args,ts⟩:=c
  cases callee with
  | value f =>
   cases hx
   obtain⟨e,_⟩:=ho f (by simp)
   have e1:=yg (xs:=args.toList) fun x hx=>(ho x (List.mem_cons_of_mem _ hx)).1
   have hf:∀x∈args.toList.map S.ev,Fv P x:=fun x hx=>by
    obtain⟨y,hy,rfl⟩:=List.mem_map.1 hx
    exact(ho y (List.mem_cons_of_mem _ hy)).2
   simp only[imA] at hk ⊢
   rw[e,e1]
   split at hk
   ·rename_i g first cap hg
    try (rw[hg];dsimp only)
    split at hk
    ·rename_i vs hv
     try (rw[hv];dsimp only)
     rcases hk with⟨W,E',s,h1,h2⟩ |⟨W,s,h1,h2⟩
     ·exact .inl ⟨W,E',s,fun v h' st r=>⟨S,hd,Fv.v _,(fun _ e=>by cases e),.refl st.sub,h1 v h' st r⟩,h2⟩
     ·refine .inr ⟨W,s,fun h' st r=>⟨S,hd,Fv.v _,(fun _ e=>by cases e),.refl st.sub,h1 h' st r⟩,fun row len h' st hne r=>⟨S.push row,hd.push row,?_,?_,⟨st.sub,rfl,by simp[AS.push],.inl fun i hi=>box_push hi row⟩,?_⟩⟩
      ·intro p hp e
       have:=hd.lt p hp
       simp only[AV.ix,Option.some.injEq,hd.len] at e
       omega
      ·intro i e
       simp only[AV.ix,Option.some.injEq,hd.len] at e
       simp only[AS.push,qAp,List.length_singleton]
       omega
      ·rw[hd.len]
       exact h2 row len h' st hne r
    ·rename_i hv
     try (rw[hv];dsimp only)
     refine⟨hk.1,hk.2.1,?_⟩
     rcases hk.2.2 with⟨hc2,i,W,h1,h2,h3,s,h4⟩ |⟨i,W,h1,h2,h3,s,h4⟩
     ·have hi:=uJ h3 hv hf
      have hb:S'.box i=S.box i:=hd.boxeq hi
      refine .inl ⟨hc2,i,W,by rw[hd.box i hi,hb];exact h1,by rw[hb];exact h2,h3,by rw[hb];exact s,fun v row' h' st r=>⟨_,hd.setBox i hi row',Fv.v _,(fun _ e=>by cases e),⟨st.sub,rfl,by simp[AS.setBox],.inr ⟨hc2,fun _ _ _ e=>by cases e⟩⟩,h4 v row' h' st r⟩⟩
     ·have hi:=uJ h3 hv hf
      have hb:S'.box i=S.box i:=hd.boxeq hi
      have hl:i < S.bx.length:=(List.getElem?_eq_some_iff.1 h1).1
      refine .inr ⟨i,fun x=>W x∧dn i [x]=true,by rw[hd.box i hi,hb];exact h1,by rw[hb];exact h2,h3,fun b h' st k=>?_,fun x hr=>⟨S,hd,fun p hp e=>hi p hp (Bs hr.2 _ e),fun k e=>by rw[Bs hr.2 _ e];exact hl,.refl (Sub.refl h),h4 x hr.1⟩⟩
      rw[hb] at k
      exact(s b h' st k).mono (fun v _ _ ⟨x,r,o,e⟩=>⟨x,⟨r,o⟩,o,e⟩) (fun _ _ _ h=>h)
   ·exact hk.elim
  |builtin b=>cases b<;>first |exact hk.elim |cases hx
  |_=>cases hx
 |_=>first |exact hk.elim |cases hx
end
section
variable {M:Mach} {C:Ctx} {n:Nat} {S S':AS} {h:PH} {β:Nat→Nat} {a:Act} {w:World} {P:List Pd} {R:List Rd}
theorem G.push0 (g:G M C n S h β a w):G M C n (S.push []) h β a w:=by
 refine⟨g.size,g.defers,g.fine,fun i cs hi hc=>?_,fun i j ci cj hi hj hci hcj=>?_,g.slots,fun t i hi=>?_,?_,g.pin.2⟩
 ·simp only[AS.push,List.getElem?_append] at hi
  split at hi
  ·exact g.boxes i cs hi hc
  ·rw[List.getElem?_singleton] at hi
   split at hi
   ·cases hi;exact(hc rfl).elim
   ·cases hi
 ·simp only[AS.push,List.getElem?_append] at hi hj
  split at hi
  ·split at hj
   ·exact g.inj i j ci cj hi hj hci hcj
   ·rw[List.getElem?_singleton] at hj
    split at hj
    ·cases hj;exact(hcj rfl).elim
    ·cases hj
  ·rw[List.getElem?_singleton] at hi
   split at hi
   ·cases hi;exact(hci rfl).elim
   ·cases hi
 ·have:=g.wf t i hi
  simp only[AS.push,qAp]
  omega
 ·have:=g.pin.1
  simp only[AS.push,qAp]
  omega
theorem G.fill (g:G M C n S h β a w) {j:Nat} (hj:S.bx[j]?=some []) (hf:∀t,(lk S.sl t).ix≠some j) (hp:C.pin.length≤j) (cs:List Value) (T:TypeId):
  ∃β',β' j=w.heap.size∧G M C n (S.setBox j cs) h β' a (w.alloc (.cells cs.toArray T)):=by
 have hlen:j < S.bx.length:=(List.getElem?_eq_some_iff.1 hj).1
 have hnew:(w.alloc (.cells cs.toArray T)).heap[w.heap.size]?=some (.cells cs.toArray T (0,0)):=by
  show(w.heap.push _)[w.heap.size]?=_
  simp
 have hb:Below w.heap.size w (w.alloc (.cells cs.toArray T)):=(Below.refl _ _).alloc (η _) _
 have g':=g.below hb
 refine⟨fun i=>if i=j then w.heap.size else β i,by simp,?_⟩
 have hget:∀(i:Nat) (ci:List Value),(S.setBox j cs).bx[i]?=some ci→(i≠j∧S.bx[i]?=some ci)∨(i=j∧ci=cs):=by
  simp only[AS.setBox]
  intro i ci hi
  by_cases e:i=j
  ·subst e;rw[List.getElem?_set_self hlen] at hi;exact .inr ⟨rfl,(Option.some.inj hi).symm⟩
  ·rw[List.getElem?_set_ne (Ne.symm e)] at hi;exact .inl ⟨e,hi⟩
 have hltb:∀(i:Nat) (ci:List Value),S.bx[i]?=some ci→ci≠[]→β i < w.heap.size:=fun i ci hi hc=>(g.boxes i ci hi hc).lt
 refine⟨g.size,g.defers,g'.fine,fun i ci hi hc=>?_,fun i k ci ck hi hk hci hck hik=>?_,fun t=>?_,fun t i hi=>?_,?_,fun i hi=>?_⟩
 ·rcases hget i ci hi with⟨hl,hi⟩ |⟨rfl,rfl⟩
  ·simp only[if_neg hl]
   exact g'.boxes i ci hi hc
  ·simp only[if_true]
   refine⟨⟨T,hnew⟩,g.fine.below.size,?_⟩
   cases hx:h w.heap.size with
   |none=>rfl
   |some _=>have:=g.fine.lt hx;omega
 ·rcases hget i ci hi with⟨hl,hi'⟩ |⟨hl,_⟩<;>rcases hget k ck hk with⟨hl',hk'⟩ |⟨hl',_⟩
  ·simp only[if_neg hl,if_neg hl'] at hik
   exact g.inj i k ci ck hi' hk' hci hck hik
  ·simp only[if_neg hl,if_pos hl'] at hik
   have:=hltb i ci hi' hci;omega
  ·simp only[if_pos hl,if_neg hl'] at hik
   have:=hltb k ck hk' hck;omega
  ·omega
 ·rcases g.slots t with hs |hs
  ·exact .inl hs
  ·refine .inr ?_
   rw[hs]
   simp only[AS.setBox]
   have hn:=hf t
   cases hx:lk S.sl t with
   |top=>rfl
   |v x=>rfl
   |p i off=>rw[hx] at hn;simp only[cv,if_neg (show ¬i=j from fun e=>hn (by rw[e];rfl))]
   |s i off len cap=>rw[hx] at hn;simp only[cv,if_neg (show ¬i=j from fun e=>hn (by rw[e];rfl))]
 ·have:=g.wf t i hi
  simpa[AS.setBox] using this
 ·have:=g.pin.1
  simpa[AS.setBox] using this
 ·simp only[if_neg (show ¬i=j by omega)]
  exact g.pin.2 i hi
theorem G.same (g:G M C n S' h β a w) (hd:Hd [] [] S S'):G M C n S h β a w:=by
 have hb:S'.bx=S.bx:=List.ext_getElem? fun i=>hd.box i (fun _ hp=>by cases hp)
 have hs:∀t,lk S'.sl t=lk S.sl t:=fun t=>hd.slot t (by rintro(⟨_,h,_⟩ |⟨_,h,_⟩)<;>cases h)
 exact⟨g.size,g.defers,g.fine,fun i cs hi=>g.boxes i cs (by rw[hb];exact hi),fun i j ci cj hi hj=>g.inj i j ci cj (by rw[hb];exact hi) (by rw[hb];exact hj),fun t=>by rw[←hs];exact g.slots t,fun t i hi=>by rw[←hb];exact g.wf t i (by rw[hs];exact hi),by rw[←hb];exact g.pin.1,g.pin.2⟩
def reads (o:Oper) (t:Nat):Bool:=match opn o.op with
 | some xs=>xs.any fun x=>match x with
  |.tmp u=>u == t
  |_=>false
 |none=>true
theorem DE {o:Oper} {xs:List Operand} {t:Nat} (hx:opn o.op=some xs) (hm:Operand.tmp t∈xs):reads o t=true:=by
 unfold reads
 rw[hx]
 exact List.any_eq_true.2 ⟨_,hm,by simp⟩
def lds:Op→Option Nat
 |.load _ (.tmp s)=>some s
 |_=>none
def sts:Op→Option Nat
 |.store _ (.tmp t) _=>some t
 |_=>none
def maskd (m:List Nat) (y x:Nat):Bool:=(m.getD y 0).testBit x
def Bv (ops:Array Oper) (i:Nat):Bool:=match ops[i]? with
 |some o=>o.guard.isNone && (opn o.op).isSome && (cls o.op != 0 || o.dst.isSome) && o.dst.all (fun d=>!reads o d)
 |none=>false
def qH (o:Oper) (d:Option Nat):Bool:=match d with
 |some d=>!reads o d && o.dst != some d
 |none=>true
def pairH (ops:Array Oper) (m:List Nat) (seps:List (Nat×Nat)) (x y:Nat):Bool:=match ops[x]?,ops[y]? with
 | some ox,some oy=>!bE ops x y && qH ox oy.dst && (match ox.dst with |some d=>!reads oy d || bE ops y x |none=>true) &&
  (maskd m y x || (cls ox.op == 0 && (cls oy.op != 2 || mf ox.op || match lds ox.op,sts oy.op with |some s,some t=>seps.contains (s,t) |_,_=>false)))
 |_,_=>false
def xy (ops:Array Oper) (p y:Nat):Bool:=match ops[p]?,ops[y]? with
 |some op,some oy=>!bE ops p y && (match op.dst with |some d=>oy.dst != some d && (!reads oy d || bE ops y p) |none=>false)
 |_,_=>false
def pw (f:Nat→Nat→Bool):List Nat→Bool
 |[]=>true
 |x :: l=>l.all (f x) && pw f l
theorem FI {f:Nat→Nat→Bool}:∀{l:List Nat},pw f l=true→l.Pairwise fun x y=>f x y=true
 |[],_=>.nil
 | x :: l,h=>by
  simp only[pw,φ,qBd] at h
  exact .cons h.1 (FI h.2)
def alP (ops:Array Oper):List Nat→Option (List (Nat×Nat))
 |[]=>some []
 | i :: l=>match ops[i]? with
  | some ⟨some d,.alloc _,_,_,_,none⟩=>match alP ops l with
   |some r=>some ((i,d) :: r)
   |none=>none
  |_=>none
def hoOk (n:Nat) (ops:Array Oper) (seps sepn:List (Nat×Nat)) (al c:List Nat):Bool:=
 sW ops && ((List.range ops.size).all fun x=>!bE ops x x) && aJ (al ++c) && ((al ++c).length == ops.size) && ((al ++c).all fun x=>Nat.blt x ops.size) &&
 (prep n ops ((al ++c).map .o)).isSome && (match alP ops al with |some ap=>aJ (ap.map (·.2)) && sepn.all (fun s=>(ap.map (·.2)).contains s.2 && !(ap.map (·.2)).contains s.1) |none=>false) && c.all (Bv ops) && pw (pairH ops (bF ops ops.size) (seps ++sepn)) c &&
 al.all (fun p=>c.all (xy ops p)) && pw (fun x y=>!bE ops x y) al && seps.all (fun s=>ops.all fun o=>o.dst != some s.1 && o.dst != some s.2) &&
 sepn.all (fun s=>c.all fun i=>match ops[i]? with |some o=>o.dst != some s.1 && o.dst != some s.2 |none=>false)
def Al (M:Mach) (C:Ctx) (n:Nat) (ops:Array Oper) (p:Pd):Prop:=C.pin.length≤p.j∧p.d < n∧∃o T,ops[p.i]?=some o∧o.dst=some p.d∧o.guard=none∧o.op=.alloc T∧zer M.P T=some p.z
def Re (M:Mach) (n:Nat) (ops:Array Oper) (S:AS) (h:PH) (q:Rd):Prop:=q.d < n∧∃o xs,ops[q.i]?=some o∧o.dst=some q.d∧o.guard=none∧cls o.op=0∧opn o.op=some xs∧rdA M o.op S h (fun y=>y=q.x)
def sepA (S:AS) (s t:Nat):Prop:=∀i,(lk S.sl s).ix=some i→(lk S.sl t).ix≠some i
structure Stat (n:Nat) (ops:Array Oper) (seps:List (Nat×Nat)) (al c:List Nat):Prop where
 edges:∀y x,bE ops y x=true→x < ops.size
 irr:∀x,x < ops.size→bE ops x x=false
 nodup:(al ++c).Nodup
 lt:∀j∈al ++c,j < ops.size
 plain:∀i∈c,Bv ops i=true
 pairs:c.Pairwise fun x y=>pairH ops (bF ops ops.size) seps x y=true
 allocs:∀p∈al,∀y∈c,xy ops p y=true
 alpw:al.Pairwise fun x y=>bE ops x y=false
 sepok:∀s t,(s,t)∈seps→∀i∈c,∀(o:Oper),ops[i]?=some o→o.dst≠some s∧o.dst≠some t
variable {ops:Array Oper} {Q:Exit→AS→PH→Prop} {E:List PanicEntry→PH→Prop} {seps:List (Nat×Nat)} {al c:List Nat}
structure Inv (M:Mach) (C:Ctx) (n:Nat) (ops:Array Oper) (seps:List (Nat×Nat)) (al c:List Nat) (E:List PanicEntry→PH→Prop) (K:AS→PH→Prop) (listed:Array Bool) (P:List Pd) (R:List Rd) (r:List Nat) (gl:List GX) (S S':AS) (h:PH) (β:Nat→Nat) (a:Act) (w:World):Prop where
 hd:Hd P R S S'
 g:G M C n S' h β a w
 ha:∀p∈P,Al M C n ops p
 hr:∀q∈R,Re M n ops S h q
 sep:∀s t,(s,t)∈seps→sepA S s t
 subP:(P.map (·.i)).Sublist al
 subR:(R.map (·.i) ++r).Sublist c
 size:listed.size=ops.size
 mem:∀j,j < ops.size→(listed.getD j false=false↔j∈P.map (·.i) ++(R.map (·.i) ++r))
 closed:∀j,listed.getD j false=true→∀x,bE ops j x=true→listed.getD x false=true
 glp:prep n ops (r.map .o)=some gl
 wk:walk M E gl K S h
section
variable {K:AS→PH→Prop} {listed:Array Bool} {r:List Nat} {gl:List GX}
theorem Inv.sub (v:Inv M C n ops seps al c E K listed P R r gl S S' h β a w):(P.map (·.i) ++(R.map (·.i) ++r)).Sublist (al ++c):=v.subP.append v.subR
theorem Inv.nd (st:Stat n ops seps al c) (v:Inv M C n ops seps al c E K listed P R r gl S S' h β a w):(P.map (·.i) ++(R.map (·.i) ++r)).Nodup:=st.nodup.sublist v.sub
theorem Inv.ready (v:Inv M C n ops seps al c E K listed P R r gl S S' h β a w) (st:Stat n ops seps al c) {i:Nat} (hi:i∈Region.ready .any ops listed):
  i < ops.size∧i∈P.map (·.i) ++(R.map (·.i) ++r)∧(∀x∈P.map (·.i) ++(R.map (·.i) ++r),bE ops i x=false∧maskd (bF ops ops.size) i x=false)∧∀x,bE ops i x=true→listed.getD x false=true:=by
 obtain⟨h1,h2,h3⟩:=(iO v.size).1 hi
 refine⟨h1,(v.mem i h1).1 h2,fun x hx=>?_,h3⟩
 have hxl:x < ops.size:=st.lt x (v.sub.subset hx)
 have hun:listed.getD x false=false:=(v.mem x hxl).2 hx
 constructor
 ·cases hb:bE ops i x with
  |false=>rfl
  |true=>rw[h3 x hb] at hun;cases hun
 ·cases hb:maskd (bF ops ops.size) i x with
  |false=>rfl
  | true=>
   have:=po v.closed (nX _ i x h1 hb) h3
   rw[hun] at this;cases this
theorem Inv.first (v:Inv M C n ops seps al c E K listed P R r gl S S' h β a w) (st:Stat n ops seps al c) (hr:Region.ready .any ops listed=[]):P.map (·.i) ++(R.map (·.i) ++r)=[]:=by
 have hpw:(al ++c).Pairwise fun x y=>bE ops x y=false:=by
  refine List.pairwise_append.2 ⟨st.alpw,st.pairs.imp fun {x y} h=>?_,fun p hp y hy=>?_⟩
  ·unfold pairH at h
   split at h
   ·simp only[φ,Bool.not_eq_true'] at h;exact h.1.1.1
   ·cases h
  ·have h:=st.allocs p hp y hy
   unfold xy at h
   split at h
   ·simp only[φ,Bool.not_eq_true'] at h;exact h.1
   ·cases h
 have hpl:=hpw.sublist v.sub
 have hmem:=v.mem
 have hlt:∀x∈P.map (·.i) ++(R.map (·.i) ++r),x < ops.size:=fun x hx=>st.lt x (v.sub.subset hx)
 generalize P.map (·.i) ++(R.map (·.i) ++r)=L at*
 cases L with
 |nil=>rfl
 | cons u L=>
  exfalso
  have hu:=hlt u (qAt ..)
  have:u∈Region.ready .any ops listed:=(iO v.size).2 ⟨hu,(hmem u hu).2 (qAt ..),fun x hx=>by
   have hxl:=st.edges _ _ hx
   cases hl:listed.getD x false with
   |true=>rfl
   | false=>
    rcases List.mem_cons.1 ((hmem x hxl).1 hl) with rfl |hm
    ·rw[st.irr _ hxl] at hx;cases hx
    ·rw[(List.pairwise_cons.1 hpl).1 x hm] at hx;cases hx⟩
  rw[hr] at this;cases this
theorem Inv.done (v:Inv M C n ops seps al c E (fun S h=>Q .normal S h) listed P R r gl S S' h β a w) (hn:P.map (·.i) ++(R.map (·.i) ++r)=[]):LQ M n C Q E .normal a w:=by
 obtain⟨h1,h2⟩:=List.append_eq_nil_iff.1 hn
 obtain⟨h2,h3⟩:=List.append_eq_nil_iff.1 h2
 obtain rfl:=List.map_eq_nil_iff.1 h1
 obtain rfl:=List.map_eq_nil_iff.1 h2
 subst h3
 have hg:=v.glp
 cases hg
 have hw:=v.wk
 rw[walk.eq_def] at hw
 exact⟨S,h,β,v.g.same v.hd,hw⟩
theorem Bm {L L':List Nat} {i:Nat} (hs:listed.size=ops.size) (hi:i < ops.size) (hmem:∀j,j < ops.size→(listed.getD j false=false↔j∈L)) (hL:∀j,j∈L'↔j∈L∧j≠i):∀j,j < ops.size→((listed.setIfInBounds i true).getD j false=false↔j∈L'):=by
 intro j hj
 by_cases hij:i=j
 ·subst hij
  have:(listed.setIfInBounds i true).getD i false=true:=by simp[hs,hi]
  rw[this,hL]
  simp
 ·rw[getD_set_ne false hij,hmem j hj,hL]
  exact⟨fun h=>⟨h,fun e=>hij e.symm⟩,fun h=>h.1⟩
theorem rT {i:Nat} (hcl:∀j,listed.getD j false=true→∀x,bE ops j x=true→listed.getD x false=true) (hi:∀x,bE ops i x=true→listed.getD x false=true):∀j,(listed.setIfInBounds i true).getD j false=true→∀x,bE ops j x=true→(listed.setIfInBounds i true).getD x false=true:=by
 intro j hj x hx
 by_cases hij:i=j
 ·subst hij;exact getD_set_true (hi x hx)
 ·rw[getD_set_ne false hij] at hj
  exact getD_set_true (hcl j hj x hx)
end
theorem Bw (S:AS) (d:Option Nat) (x:AV):(S.put d x).bx=S.bx:=by cases d<;>rfl
theorem AC (S:AS) (d:Option Nat) (x:AV) (i:Nat):(S.put d x).box i=S.box i:=by unfold AS.box;rw[Bw]
theorem ev_put {S S1:AS} {o:Oper} {xs:List Operand} (hx:opn o.op=some xs) {d:Option Nat} (hf:∀k,d=some k→reads o k=false) (hsl:S1.sl=S.sl) (x:AV):∀y∈xs,(S1.put d x).ev y=S.ev y:=by
 intro y hy
 cases y with
 | tmp t=>
  cases d with
  |none=>show lk S1.sl t=lk S.sl t;rw[hsl]
  | some d=>
   show lk (st S1.sl d x) t=lk S.sl t
   rw[lk_st,if_neg,hsl]
   intro e
   subst e
   have:=DE hx hy
   rw[hf t rfl] at this;cases this
 |const c=>rfl
 |global g=>rfl
 |func f=>rfl
theorem wf_ev {S:AS} (wf:∀t k,(lk S.sl t).ix=some k→k < S.bx.length) (x:Operand):∀k,(S.ev x).ix=some k→k < S.bx.length:=by
 cases x with
 |tmp t=>exact wf t
 |const c=>exact fun _ e=>by cases e
 |global g=>exact fun _ e=>by cases e
 |func f=>exact fun _ e=>by cases e
theorem lds_of {op:Op} {s:Nat} (h:lds op=some s):∃T,op=.load T (.tmp s):=by
 unfold lds at h
 split at h
 ·cases h;exact⟨_,rfl⟩
 ·cases h
theorem sts_of {op:Op} {t:Nat} (h:sts op=some t):∃T y,op=.store T (.tmp t) y:=by
 unfold sts at h
 split at h
 ·cases h;exact⟨_,_,rfl⟩
 ·cases h
theorem Re.keep {q:Rd} {S S1:AS} {h h1:PH} {oi:Oper} {i:Nat} {x:AV} {m:List Nat} (hq:Re M n ops S h q) (hi:ops[i]?=some oi) (wf:∀t k,(lk S.sl t).ix=some k→k < S.bx.length) (hp:pairH ops m seps q.i i=true) (hm:cls oi.op=2→maskd m i q.i=false)
  (hsep:∀s t,(s,t)∈seps→sepA S s t) (kp:Keep oi.op S h S1 h1):Re M n ops (S1.put oi.dst x) h1 q:=by
 obtain⟨hqn,o,xs,ho,hod,hog,hoc,hox,hrd⟩:=hq
 unfold pairH at hp
 rw[ho,hi] at hp
 simp only[φ] at hp
 obtain⟨⟨⟨_,hfree⟩,_⟩,hlast⟩:=hp
 have hev:=ev_put (S:=S) (S1:=S1) hox (d:=oi.dst) (fun k hk=>by
  rw[hk] at hfree
  simp only[qH,φ,Bool.not_eq_true'] at hfree
  exact hfree.1) kp.sl x
 refine⟨hqn,o,xs,ho,hod,hog,hoc,hox,?_⟩
 rcases kp.box with hb |⟨hc2,hb⟩
 ·obtain⟨x',_,e,hk⟩:=rdV (S:=S) (S':=S1.put oi.dst x) (fun k=>S.bx.length≤k) (fun k hk=>by rw[AC];exact hb k (by omega)) kp.sub hox (fun y hy=>⟨hev y hy,fun k e hk=>by have:=wf_ev wf y k e;omega⟩) hrd
  rw[e] at hk
  exact hk
 ·rw[hm hc2,Bool.false_or,hc2] at hlast
  simp only[bne_self_eq_false,Bool.false_or,φ,Bool.or_eq_true] at hlast
  rcases hlast.2 with hmf |hls
  ·exact rdM hmf hox hev hrd
  ·split at hls
   ·rename_i s t hs ht
    obtain⟨T,es⟩:=lds_of hs
    obtain⟨T',y',et⟩:=sts_of ht
    have hsp:=hsep s t (by simpa using hls)
    have hxs:xs=[.tmp s]:=by rw[es] at hox;cases hox;rfl
    have hb':=hb T' (.tmp t) y' et
    obtain⟨x',_,e,hk⟩:=rdV (S:=S) (S':=S1.put oi.dst x) (fun k=>(lk S.sl t).ix=some k) (fun k hk=>by rw[AC];exact hb' k hk) kp.sub hox (fun y hy=>⟨hev y hy,fun k e hk=>by
     rw[hxs,qBc] at hy
     subst hy
     exact hsp k e hk⟩) hrd
    rw[e] at hk
    exact hk
   ·cases hls
section
variable {K:AS→PH→Prop} {listed:Array Bool} {r:List Nat} {gl:List GX}
theorem qV {i:Nat} (h:Bv ops i=true):∃o xs,ops[i]?=some o∧o.guard=none∧opn o.op=some xs∧(cls o.op=0→∃d,o.dst=some d)∧∀d,o.dst=some d→reads o d=false:=by
 unfold Bv at h
 split at h
 ·rename_i o ho
  simp only[φ,Bool.or_eq_true] at h
  obtain⟨⟨⟨h1,h2⟩,h3⟩,h4⟩:=h
  obtain⟨xs,hx⟩:=Option.isSome_iff_exists.1 h2
  refine⟨o,xs,ho,by simpa using h1,hx,fun hc=>?_,fun d hd=>?_⟩
  ·rcases h3 with h3 |h3
   ·rw[hc] at h3;cases h3
   ·exact Option.isSome_iff_exists.1 h3
  ·rw[hd] at h4;simpa using h4
 ·cases h
theorem uY {i:Nat} {o:Oper} (ho:ops[i]?=some o) (hg:o.guard=none) {r:List Nat} {gl:List GX} (hp:prep n ops ((i :: r).map .o)=some gl) (hw:walk M E gl K S h):
  ∃gl',prep n ops (r.map .o)=some gl'∧(∀k,o.dst=some k→k < n)∧step1 M E ⟨o.dst,o.op,none⟩ (walk M E gl' K) S h:=by
 simp only[List.map_cons,prep,Bp,ho] at hp
 have hgo:gOf ops o=some none:=by unfold gOf;rw[hg]
 rw[hgo] at hp
 dsimp only at hp
 cases hdd:(o.dst.all (Nat.blt · n)) with
 |false=>rw[hdd] at hp;cases hp
 | true=>
  rw[hdd] at hp
  cases hq:prep n ops (r.map .o) with
  |none=>rw[hq] at hp;cases hp
  | some gl'=>
   rw[hq] at hp;cases hp
   refine⟨gl',rfl,fun k hk=>by rw[hk] at hdd;simpa[Nat.blt_eq] using hdd,?_⟩
   rw[walk.eq_def] at hw
   exact hw
theorem Inv.dst (v:Inv M C n ops seps al c E K listed P R r gl S S' h β a w) (st:Stat n ops seps al c) {i:Nat} {o:Oper} (hi:i∈r) (ho:ops[i]?=some o):∀k,o.dst=some k→¬hid P R k:=by
 intro k hk
 have hic:i∈c:=v.subR.subset (List.mem_append_right _ hi)
 rintro(⟨p,hp,e⟩ |⟨q,hq,e⟩)
 ·have h:=st.allocs p.i (v.subP.subset (List.mem_map.2 ⟨p,hp,rfl⟩)) i hic
  obtain⟨_,_,op,T,hop,hod,_⟩:=v.ha p hp
  unfold xy at h
  rw[hop,ho] at h
  simp only[hod,hk,φ,bne_iff_ne,ne_eq,Option.some.injEq] at h
  exact h.2.1 e.symm
 ·have hpw:=(List.pairwise_append.1 (st.pairs.sublist v.subR)).2.2 q.i (List.mem_map.2 ⟨q,hq,rfl⟩) i hi
  obtain⟨_,oq,_,hoq,hod,_⟩:=v.hr q hq
  unfold pairH at hpw
  rw[hoq,ho] at hpw
  simp only[φ,hk,qH,hod,bne_iff_ne,ne_eq,Option.some.injEq] at hpw
  exact hpw.1.1.2.2 e
theorem Inv.adv1 {i:Nat} (v:Inv M C n ops seps al c E K listed P R (i :: r) gl S S' h β a w) (st:Stat n ops seps al c) (h0:∃o,ops[i]?=some o∧cls o.op=0):
  ∃q gl' S2,q.i=i∧Inv M C n ops seps al c E K listed P (R ++[q]) r gl' S2 S' h β a w:=by
 have hic:i∈c:=v.subR.subset (List.mem_append_right _ (qAt ..))
 obtain⟨o,xs,ho,hg,hx,hdst,hrd⟩:=qV (st.plain i hic)
 obtain⟨o',ho',hc0⟩:=h0
 rw[ho] at ho';cases ho'
 obtain⟨d,hd⟩:=hdst hc0
 obtain⟨gl',hq,hdn,hw⟩:=uY ho hg v.glp v.wk
 have hcb:(cls o.op == 0)=true:=by simpa using hc0
 simp only[step1,hcb,cond_true] at hw
 obtain⟨x,hxl,hk,hv⟩:=rdV (S:=S) (S':=S) (fun k=>S.bx.length≤k) (fun _ _=>rfl) (Sub.refl h) hx (fun y _=>⟨rfl,fun k e hk=>by have:=v.hd.wfev y k e;omega⟩) hw
 have hxl:∀k,x.ix=some k→k < S.bx.length:=fun k e=>by have:=hxl k e;omega
 have hnh:=v.dst st (qAt ..) ho d hd
 have hev:=ev_put (S:=S) (S1:=S) hx (d:=some d) (fun k hk=>by cases hk;exact hrd d hd) rfl x
 obtain⟨x',_,ex,hv2⟩:=rdV (S:=S) (S':=S.put (some d) x) (fun k=>S.bx.length≤k) (fun k _=>AC ..) (Sub.refl h) hx (fun y hy=>⟨hev y hy,fun k e hk=>by have:=v.hd.wfev y k e;omega⟩) hv
 rw[ex] at hv2
 have eL:(R ++[(⟨i,d,x⟩:Rd)]).map (fun q=>q.i) ++r=R.map (fun q=>q.i) ++i :: r:=by simp
 refine⟨⟨i,d,x⟩,gl',S.put (some d) x,rfl,⟨⟨v.hd.len,v.hd.lt,v.hd.box,v.hd.no,v.hd.yes,fun t ht=>?_,fun p hp=>?_,fun q hq=>?_,v.hd.fresh,fun t k hk=>?_,v.hd.apart⟩,v.g,v.ha,fun q hq=>?_,fun s t hst=>?_,v.subP,by rw[eL];exact v.subR,v.size,by rw[eL];exact v.mem,v.closed,hq,by rw[hd] at hk;exact hk⟩⟩
 ·show lk S'.sl t=lk (Go.Q.st S.sl d x) t
  rw[lk_st,if_neg (fun e=>ht (.inr ⟨_,List.mem_append_right _ (qBc.2 rfl),e.symm⟩))]
  exact v.hd.slot t fun k=>ht (k.imp id fun⟨q,hq,e⟩=>⟨q,List.mem_append_left _ hq,e⟩)
 ·show lk (Go.Q.st S.sl d x) p.d=_
  rw[lk_st,if_neg (fun e=>hnh (.inl ⟨p,hp,e⟩))]
  exact v.hd.ptr p hp
 ·show lk (Go.Q.st S.sl d x) q.d=_
  rw[lk_st]
  rcases qAu.1 hq with hq |hq
  ·rw[if_neg (fun e=>hnh (.inr ⟨q,hq,e⟩))]
   exact v.hd.val q hq
  ·rw[qBc.1 hq,if_pos rfl]
 ·change (lk (Go.Q.st S.sl d x) t).ix=some k at hk
  rw[lk_st] at hk
  split at hk
  ·exact hxl k hk
  ·exact v.hd.wf t k hk
 ·rcases qAu.1 hq with hq |hq
  ·have hpw:=(List.pairwise_append.1 (st.pairs.sublist v.subR)).2.2 q.i (List.mem_map.2 ⟨q,hq,rfl⟩) i (qAt ..)
   have:=(v.hr q hq).keep (x:=x) ho v.hd.wf hpw (fun e=>by rw[hc0] at e;cases e) v.sep (.refl (Sub.refl h))
   rw[hd] at this
   exact this
  ·rw[qBc.1 hq]
   exact⟨hdn d hd,o,xs,ho,hd,hg,hc0,hx,hv2⟩
 ·obtain⟨n1,n2⟩:=st.sepok s t hst i hic o ho
  show ∀k,(lk (Go.Q.st S.sl d x) s).ix=some k→(lk (Go.Q.st S.sl d x) t).ix≠some k
  rw[lk_st,lk_st,if_neg (fun e=>n1 (by rw[hd,e])),if_neg (fun e=>n2 (by rw[hd,e]))]
  exact v.sep s t hst
theorem Inv.adv {post:List Nat}:∀(pre:List Nat) (R:List Rd) (gl:List GX) (S:AS),Inv M C n ops seps al c E K listed P R (pre ++post) gl S S' h β a w→Stat n ops seps al c→(∀x∈pre,∃o,ops[x]?=some o∧cls o.op=0)→
  ∃R2 gl2 S2,R2.map (·.i)=R.map (·.i) ++pre∧Inv M C n ops seps al c E K listed P R2 post gl2 S2 S' h β a w
 |[],R,gl,S,v,_,_=>⟨R,gl,S,by simp,v⟩
 | x :: pre,R,gl,S,v,st,h0=>by
  obtain⟨q,gl',S2,hq,v2⟩:=Inv.adv1 (r:=pre ++post) v st (h0 x (qAt ..))
  obtain⟨R2,gl2,S3,e,v3⟩:=Inv.adv pre _ _ _ v2 st fun y hy=>h0 y (List.mem_cons_of_mem _ hy)
  exact⟨R2,gl2,S3,by rw[e];simp[hq],v3⟩
theorem Inv.opnds (v:Inv M C n ops seps al c E K listed P R r gl S S' h β a w) (st:Stat n ops seps al c) {i:Nat} {o:Oper} {xs:List Operand} (hi:i∈Region.ready .any ops listed) (hic:i∈R.map (·.i) ++r) (ho:ops[i]?=some o) (hx:opn o.op=some xs):∀x∈xs,EvOk P S S' x:=by
 obtain⟨_,_,hL,_⟩:=v.ready st hi
 have hcm:i∈c:=v.subR.subset hic
 intro x hxm
 refine v.hd.ev fun t e=>?_
 subst e
 have hrt:=DE hx hxm
 rintro(⟨p,hp,e⟩ |⟨q,hq,e⟩)
 ·have hpm:p.i∈P.map (·.i):=List.mem_map.2 ⟨p,hp,rfl⟩
  have h:=st.allocs p.i (v.subP.subset hpm) i hcm
  obtain⟨_,_,op,T,hop,hod,_⟩:=v.ha p hp
  unfold xy at h
  rw[hop,ho] at h
  simp only[hod,e,hrt,φ,Bool.not_true,Bool.false_or] at h
  rw[(hL p.i (List.mem_append_left _ hpm)).1] at h
  exact absurd h.2.2 (by decide)
 ·have hqm:q.i∈R.map (·.i):=List.mem_map.2 ⟨q,hq,rfl⟩
  have hqL:q.i∈P.map (·.i) ++(R.map (·.i) ++r):=List.mem_append_right _ (List.mem_append_left _ hqm)
  obtain⟨_,oq,_,hoq,hod,hgq,hcq,hxq,_⟩:=v.hr q hq
  have hd0:=(hL q.i hqL).1
  have hpl:=st.pairs.sublist v.subR
  by_cases hqi:q.i=i
  ·rw[hqi,ho] at hoq;cases hoq
   obtain⟨o',_,ho',_,_,_,hself⟩:=qV (st.plain i hcm)
   rw[ho] at ho';cases ho'
   have:=hself q.d hod
   rw[e,hrt] at this;cases this
  ·have key:pairH ops (bF ops ops.size) seps q.i i=true∨pairH ops (bF ops ops.size) seps i q.i=true:=by
    have:∀{L:List Nat},L.Pairwise (fun x y=>pairH ops (bF ops ops.size) seps x y=true)→q.i∈L→i∈L→pairH ops (bF ops ops.size) seps q.i i=true∨pairH ops (bF ops ops.size) seps i q.i=true:=by
     intro L hL
     induction hL with
     |nil=>intro h;cases h
     | cons h1 _ ih=>
      intro ha hb
      rcases List.mem_cons.1 ha with ha |ha<;>rcases List.mem_cons.1 hb with hb |hb
      ·exact(hqi (ha.trans hb.symm)).elim
      ·rw[ha];exact .inl (h1 _ hb)
      ·rw[hb];exact .inr (h1 _ ha)
      ·exact ih ha hb
    exact this hpl (List.mem_append_left _ hqm) hic
   rcases key with key |key
   ·unfold pairH at key
    rw[hoq,ho] at key
    simp only[hod,e,hrt,φ,Bool.not_true,Bool.false_or] at key
    rw[hd0] at key
    exact absurd key.1.2 (by decide)
   ·unfold pairH at key
    rw[hoq,ho] at key
    simp only[hod,qH,e,hrt,φ,Bool.not_true] at key
    exact absurd key.1.1.2.1 (by decide)
theorem Inv.head {i:Nat} (v:Inv M C n ops seps al c E K listed P R (i :: r) gl S S' h β a w) (st:Stat n ops seps al c) (hi:i∈Region.ready .any ops listed) {o:Oper} (ho:ops[i]?=some o) {Q':Exit→Act→World→Prop} (hQ:∀ch h' w',Fine M C h' w'→E ch h'→Q' (.panic ch) a w'):
  o.wp M.P a w (fun a' w'=>∃gl' S2 S2' h' β',Inv M C n ops seps al c E K (listed.setIfInBounds i true) P R r gl' S2 S2' h' β' a' w') Q':=by
 have hic:i∈c:=v.subR.subset (List.mem_append_right _ (qAt ..))
 obtain⟨o',xs,ho',hg,hx,hdst,hself⟩:=qV (st.plain i hic)
 rw[ho] at ho';cases ho'
 obtain⟨hil,_,hL,hcl⟩:=v.ready st hi
 obtain⟨gl',hq,hdn,hw⟩:=uY ho hg v.glp v.wk
 have hev:=v.opnds st hi (List.mem_append_right _ (qAt ..)) ho hx
 have hnh:=v.dst st (qAt ..) ho
 have hnd:=v.nd st
 have hmem2:∀j,j∈P.map (·.i) ++(R.map (·.i) ++r)↔j∈P.map (·.i) ++(R.map (·.i) ++i :: r)∧j≠i:=by
  intro j
  have hn:i ∉ P.map (·.i) ++(R.map (·.i) ++r):=by
   intro hm
   have hp:(P.map (·.i) ++(R.map (·.i) ++i :: r)).Perm (i :: (P.map (·.i) ++(R.map (·.i) ++r))):=by
    rw[←List.append_assoc,←List.append_assoc]
    exact List.perm_middle
   exact(List.nodup_cons.1 (hp.nodup_iff.1 hnd)).1 hm
  simp only[qAu,List.mem_cons] at hn ⊢
  constructor
  ·intro hm
   exact⟨by rcases hm with h |h |h<;>simp[h],fun e=>hn (e▸hm)⟩
  ·rintro⟨h |h |h |h,hne⟩
   ·exact .inl h
   ·exact .inr (.inl h)
   ·exact(hne h).elim
   ·exact .inr (.inr h)
 have hsub:(R.map (·.i) ++r).Sublist c:=((List.Sublist.refl _).append (List.sublist_cons_self i r)).trans v.subR
 have hmem:=Bm v.size hil v.mem hmem2
 have hcl2:=rT v.closed hcl
 have hsz:(listed.setIfInBounds i true).size=ops.size:=by simpa using v.size
 have hsep:∀{S1:AS} (x:AV),S1.sl=S.sl→∀s t,(s,t)∈seps→sepA (S1.put o.dst x) s t:=by
  intro S1 x hsl s t hst
  obtain⟨n1,n2⟩:=st.sepok s t hst i hic o ho
  cases hd:o.dst with
  | none=>
   show ∀k,(lk S1.sl s).ix=some k→(lk S1.sl t).ix≠some k
   rw[hsl]
   exact v.sep s t hst
  | some d=>
   show ∀k,(lk (Go.Q.st S1.sl d x) s).ix=some k→(lk (Go.Q.st S1.sl d x) t).ix≠some k
   rw[lk_st,lk_st,if_neg (fun e=>n1 (by rw[hd,e])),if_neg (fun e=>n2 (by rw[hd,e])),hsl]
   exact v.sep s t hst
 have hpq:∀q∈R,pairH ops (bF ops ops.size) seps q.i i=true:=fun q hq=>(List.pairwise_append.1 (st.pairs.sublist v.subR)).2.2 q.i (List.mem_map.2 ⟨q,hq,rfl⟩) i (qAt ..)
 have hmq:∀q∈R,maskd (bF ops ops.size) i q.i=false:=fun q hq=>(hL q.i (List.mem_append_right _ (List.mem_append_left _ (List.mem_map.2 ⟨q,hq,rfl⟩)))).2
 by_cases hc:cls o.op=0
 ·have hcb:(cls o.op == 0)=true:=by simpa using hc
  simp only[step1,hcb,cond_true] at hw
  obtain⟨x,hxb,hk,hv⟩:=rdV (S:=S) (S':=S') (fun k=>(∃p∈P,p.j=k)∨S.bx.length≤k) (fun k hk=>v.hd.boxeq fun p hp e=>hk (.inl ⟨p,hp,e⟩)) (Sub.refl h) hx (fun y hy=>⟨(hev y hy).1,fun k e hk=>by
   rcases hk with⟨p,hp,e'⟩ |hk
   ·exact(hev y hy).2 p hp (by rw[e,e'])
   ·have:=v.hd.wfev y k e;omega⟩) hw
  have hxf:Fv P x:=fun p hp e=>hxb _ e (.inl ⟨p,hp,rfl⟩)
  have hxl:∀k,x.ix=some k→k < S.bx.length:=fun k e=>Nat.lt_of_not_le fun hk=>hxb k e (.inr hk)
  obtain⟨u,y,hr,hcx,hix,hy⟩:=yq (o:=o) v.g hv
  subst hy
  simp only[Oper.wp,hr w v.g,Oper.upon]
  refine⟨gl',S.put o.dst y,S'.put o.dst y,h,β,v.hd.put o.dst hxf hxl hnh,v.g.put hdn hcx hix,v.ha,fun q hq=>(v.hr q hq).keep ho v.hd.wf (hpq q hq) (fun e=>by rw[hc] at e;cases e) v.sep (.refl (Sub.refl h)),hsep y rfl,v.subP,hsub,hsz,hmem,hcl2,hq,hk⟩
 ·have hcb:(cls o.op == 0)=false:=by simpa using hc
  simp only[step1,hcb,cond_false] at hw
  have:=Dj (o:=o) v.g hdn (imH v.hd hx hev hc hw) Q' hQ
  refine nf (fun a' w' ⟨_,S1',h',x,β',g',S1,hd1,hfx,hlx,kp,hk⟩=>?_) this
  exact⟨gl',S1.put o.dst x,S1'.put o.dst x,h',β',hd1.put o.dst hfx hlx hnh,g',v.ha,fun q hq=>(v.hr q hq).keep ho v.hd.wf (hpq q hq) (fun _=>hmq q hq) v.sep kp,hsep x kp.sl,v.subP,hsub,hsz,hmem,hcl2,hq,hk⟩
theorem Inv.read (v:Inv M C n ops seps al c E K listed P R r gl S S' h β a w) (st:Stat n ops seps al c) {i:Nat} (hi:i∈Region.ready .any ops listed) (hiR:i∈R.map (·.i)) {o:Oper} (ho:ops[i]?=some o) {Q':Exit→Act→World→Prop}:
  o.wp M.P a w (fun a' w'=>∃R2 S2',R2.map (·.i)=(R.map (·.i)).filter (· != i)∧Inv M C n ops seps al c E K (listed.setIfInBounds i true) P R2 r gl S S2' h β a' w') Q':=by
 obtain⟨q,hq,rfl⟩:=List.mem_map.1 hiR
 obtain⟨hqn,o',xs,ho',hod,hog,hoc,hox,hrd⟩:=v.hr q hq
 rw[ho] at ho';cases ho'
 obtain⟨hil,_,hL,hcl⟩:=v.ready st hi
 have hev:=v.opnds st hi (List.mem_append_left _ hiR) ho hox
 obtain⟨x,hxb,hk,hv⟩:=rdV (S:=S) (S':=S') (fun k=>∃p∈P,p.j=k) (fun k hk=>v.hd.boxeq fun p hp e=>hk ⟨p,hp,e⟩) (Sub.refl h) hox (fun y hy=>⟨(hev y hy).1,fun k e ⟨p,hp,e'⟩=>(hev y hy).2 p hp (by rw[e,e'])⟩) hrd
 subst hk
 obtain⟨u,y,hr,hcx,hix,hy⟩:=yq (o:=o) v.g hv
 subst hy
 simp only[Oper.wp,hr w v.g,Oper.upon]
 have hnd:=v.nd st
 rw[List.nodup_append,List.nodup_append] at hnd
 have hRn:∀q'∈R,q'.d=q.d→q'.i=q.i:=by
  intro q' hq' e
  by_cases hne:q'.i=q.i
  ·exact hne
  ·exfalso
   obtain⟨_,o2,_,ho2,hod2,_⟩:=v.hr q' hq'
   have key:pairH ops (bF ops ops.size) seps q.i q'.i=true∨pairH ops (bF ops ops.size) seps q'.i q.i=true:=by
    have:∀{L:List Nat},L.Pairwise (fun x y=>pairH ops (bF ops ops.size) seps x y=true)→q.i∈L→q'.i∈L→pairH ops (bF ops ops.size) seps q.i q'.i=true∨pairH ops (bF ops ops.size) seps q'.i q.i=true:=by
     intro L hL
     induction hL with
     |nil=>intro h;cases h
     | cons h1 _ ih=>
      intro ha hb
      rcases List.mem_cons.1 ha with ha |ha<;>rcases List.mem_cons.1 hb with hb |hb
      ·exact(hne (hb.trans ha.symm)).elim
      ·rw[ha];exact .inl (h1 _ hb)
      ·rw[hb];exact .inr (h1 _ ha)
      ·exact ih ha hb
    exact this (st.pairs.sublist v.subR) (List.mem_append_left _ hiR) (List.mem_append_left _ (List.mem_map.2 ⟨q',hq',rfl⟩))
   rcases key with key |key
   ·unfold pairH at key
    rw[ho,ho2] at key
    simp only[φ,qH,hod,hod2,bne_iff_ne,ne_eq,Option.some.injEq] at key
    exact key.1.1.2.2 e.symm
   ·unfold pairH at key
    rw[ho,ho2] at key
    simp only[φ,qH,hod,hod2,bne_iff_ne,ne_eq,Option.some.injEq] at key
    exact key.1.1.2.2 e
 have hfm:(R.filter (fun p=>p.i != q.i)).map (·.i)=(R.map (·.i)).filter (· != q.i):=by simp[List.filter_map,Function.comp_def]
 have hin:∀p∈R,p.d≠q.d→p∈R.filter (fun p=>p.i != q.i):=fun p hp hne=>by
  refine List.mem_filter.2 ⟨hp,?_⟩
  have:p.i≠q.i:=by
   intro e
   obtain⟨_,o2,_,ho2,hod2,_⟩:=v.hr p hp
   rw[e,ho] at ho2;cases ho2
   rw[hod] at hod2
   exact hne (Option.some.inj hod2).symm
  simpa using this
 refine⟨R.filter (fun p=>p.i != q.i),S'.put o.dst q.x,hfm,⟨?_,v.hd.lt,?_,?_,v.hd.yes,?_,v.hd.ptr,fun p hp=>v.hd.val p (List.mem_filter.1 hp).1,?_,v.hd.wf,v.hd.apart⟩,v.g.put (fun k hk=>by rw[hod] at hk;cases hk;exact hqn) hcx hix,v.ha,fun p hp=>v.hr p (List.mem_filter.1 hp).1,v.sep,v.subP,(List.Sublist.append (List.filter_sublist.map _) (List.Sublist.refl _)).trans v.subR,by simpa using v.size,Bm v.size hil v.mem ?_,rT v.closed hcl,v.glp,v.wk⟩
 ·rw[Bw];exact v.hd.len
 ·intro k hk;rw[Bw];exact v.hd.box k hk
 ·intro p hp;rw[Bw];exact v.hd.no p hp
 ·intro t ht
  rw[hod]
  show lk (Go.Q.st S'.sl q.d q.x) t=_
  rw[lk_st]
  split
  ·rename_i e;rw[e,v.hd.val q hq]
  ·rename_i e
   exact v.hd.slot t fun k=>k.elim (fun k=>ht (.inl k)) fun⟨p,hp,e'⟩=>ht (.inr ⟨p,hin p hp (fun e2=>e (by rw[←e',e2])),e'⟩)
 ·intro t p hp
  rw[hod]
  show(lk (Go.Q.st S'.sl q.d q.x) t).ix≠_
  rw[lk_st]
  split
  ·exact fun e=>hxb _ e ⟨p,hp,rfl⟩
  ·exact v.hd.fresh t p hp
 ·intro j
  rw[hfm]
  simp only[qAu,List.mem_filter,bne_iff_ne,ne_eq]
  constructor
  ·rintro(h |⟨h,hne⟩ |h)
   ·exact⟨.inl h,fun e=>hnd.2.2 j h q.i (List.mem_append_left _ hiR) e⟩
   ·exact⟨.inr (.inl h),hne⟩
   ·exact⟨.inr (.inr h),fun e=>hnd.2.1.2.2 q.i hiR j h e.symm⟩
  ·rintro⟨h |h |h,hne⟩
   ·exact .inl h
   ·exact .inr (.inl ⟨h,hne⟩)
   ·exact .inr (.inr h)
theorem Inv.alloc (v:Inv M C n ops seps al c E K listed P R r gl S S' h β a w) (st:Stat n ops seps al c) {i:Nat} (hi:i∈Region.ready .any ops listed) (hiP:i∈P.map (·.i)) {o:Oper} (ho:ops[i]?=some o) {Q':Exit→Act→World→Prop}:
  o.guard=none∧o.wp M.P a w (fun a' w'=>∃P2 S2' β',P2.map (·.i)=(P.map (·.i)).filter (· != i)∧Inv M C n ops seps al c E K (listed.setIfInBounds i true) P2 R r gl S S2' h β' a' w') Q':=by
 obtain⟨p,hpm,rfl⟩:=List.mem_map.1 hiP
 obtain⟨hpin,hdn,o',T,ho',hod,hog,hoo,hz⟩:=v.ha p hpm
 rw[ho] at ho';cases ho'
 refine⟨hog,?_⟩
 obtain⟨hil,_,hL,hcl⟩:=v.ready st hi
 have hd:=v.hd
 obtain⟨u,hv,hvc⟩:=uc hz w
 obtain⟨β',hβ,g'⟩:=v.g.fill (hd.no p hpm) (fun t=>hd.fresh t p hpm) hpin p.z T
 have hr:(execOp a.eval o).run M.P w=.ok (.value (.pointer (some ⟨w.heap.size,0,none⟩))) (w.alloc (.cells p.z.toArray T)):=by
  simp[execOp,hoo,Instr.alloc,hv,newVar,newRow,hvc]
 simp only[Oper.wp,hr,Oper.upon]
 have g2:G M C n ((S'.setBox p.j p.z).put o.dst (.p p.j 0)) h β' (a.put o.dst (.pointer (some ⟨w.heap.size,0,none⟩))) (w.alloc (.cells p.z.toArray T)):=g'.put (fun k hk=>by rw[hod] at hk;cases hk;exact hdn) (.inr (by simp[cv,hβ])) (fun k hk=>by cases hk;simpa[AS.setBox,hd.len] using hd.lt p hpm)
 have hjl:p.j < S'.bx.length:=by rw[hd.len];exact hd.lt p hpm
 have hne:∀q∈P.filter (fun q=>q.i != p.i),q∈P∧q≠p∧q.j≠p.j∧q.d≠p.d:=fun q hq=>by
  obtain⟨h1,h2⟩:=List.mem_filter.1 hq
  have h3:q≠p:=fun e=>by subst e;simp at h2
  exact⟨h1,h3,fun e=>h3 (hd.apart q h1 p hpm (.inr (.inl e))),fun e=>h3 (hd.apart q h1 p hpm (.inr (.inr e)))⟩
 have hin:∀q∈P,q≠p→q∈P.filter (fun q=>q.i != p.i):=fun q hq hn=>List.mem_filter.2 ⟨hq,by simpa using fun e=>hn (hd.apart q hq p hpm (.inl e))⟩
 have hfm:(P.filter (fun q=>q.i != p.i)).map (·.i)=(P.map (·.i)).filter (· != p.i):=by simp[List.filter_map,Function.comp_def]
 have hnd:=v.nd st
 rw[List.nodup_append] at hnd
 refine⟨P.filter (fun q=>q.i != p.i),(S'.setBox p.j p.z).put o.dst (.p p.j 0),β',hfm,?_,g2,fun q hq=>v.ha q (hne q hq).1,v.hr,v.sep,(List.filter_sublist.map _).trans v.subP,v.subR,by simpa using v.size,Bm v.size hil v.mem ?_,rT v.closed hcl,v.glp,v.wk⟩
 ·rw[hod]
  refine⟨by simpa[AS.setBox,AS.put] using hd.len,fun q hq=>hd.lt q (hne q hq).1,fun k hk=>?_,fun q hq=>?_,fun q hq=>hd.yes q (hne q hq).1,fun t ht=>?_,fun q hq=>hd.ptr q (hne q hq).1,hd.val,fun t q hq=>?_,hd.wf,fun q hq q' hq' e=>hd.apart q (hne q hq).1 q' (hne q' hq').1 e⟩
  ·simp only[AS.put,AS.setBox]
   by_cases e:p.j=k
   ·subst e
    rw[List.getElem?_set_self hjl,hd.yes p hpm]
   ·rw[List.getElem?_set_ne e]
    exact hd.box k fun q hq=>(Classical.em (q=p)).elim (fun hqp=>by rw[hqp];exact e) (fun hqp=>hk q (hin q hq hqp))
  ·simp only[AS.put,AS.setBox]
   rw[List.getElem?_set_ne (Ne.symm (hne q hq).2.2.1)]
   exact hd.no q (hne q hq).1
  ·simp only[AS.put,AS.setBox,lk_st]
   split
   ·rename_i e
    rw[e,hd.ptr p hpm]
   ·rename_i e
    refine hd.slot t fun k=>k.elim (fun⟨q,hq,e'⟩=>?_) fun k=>ht (.inr k)
    exact(Classical.em (q=p)).elim (fun hqp=>e (by rw[←e',hqp])) (fun hqp=>ht (.inl ⟨q,hin q hq hqp,e'⟩))
  ·simp only[AS.put,AS.setBox,lk_st]
   split
   ·intro e
    exact(hne q hq).2.2.1 (Option.some.inj e).symm
   ·exact hd.fresh t q (hne q hq).1
 ·intro j
  rw[hfm]
  simp only[qAu,List.mem_filter,bne_iff_ne,ne_eq]
  constructor
  ·rintro(⟨h,hne⟩ |h)
   ·exact⟨.inl h,hne⟩
   ·exact⟨.inr h,fun e=>hnd.2.2 p.i hiP j (qAu.2 h) e.symm⟩
  ·rintro⟨h |h,hne⟩
   ·exact .inl ⟨h,hne⟩
   ·exact .inr h
end
theorem any_inv (st:Stat n ops seps al c):∀(fuel:Nat) (listed:Array Bool) (P:List Pd) (R:List Rd) (r:List Nat) (gl:List GX) (S S':AS) (h:PH) (β:Nat→Nat) (a:Act) (w:World),Inv M C n ops seps al c E (fun S h=>Q .normal S h) listed P R r gl S S' h β a w→(P.map (·.i) ++(R.map (·.i) ++r)).length≤fuel→
  wpAny M.P .any ops (LQ M n C Q E) fuel listed a w:=by
 have shorter:∀{l:List Nat} {i:Nat},i∈l→(l.filter (· != i)).length < l.length:=fun {l i} hi=>List.length_filter_lt_length_iff_exists.2 ⟨i,hi,by simp⟩
 intro fuel
 induction fuel with
 | zero=>
  intro listed P R r gl S S' h β a w v hl
  have hn:=List.eq_nil_of_length_eq_zero (Nat.le_zero.1 hl)
  refine⟨?_,v.done hn⟩
  apply List.eq_nil_iff_forall_not_mem.2
  intro j hj
  have:=(v.ready st hj).2.1
  rw[hn] at this;cases this
 | succ fuel ih=>
  intro listed P R r gl S S' h β a w v hl
  refine⟨fun hr=>v.done (v.first st hr),fun i hi=>?_⟩
  obtain⟨hil,hiL,hL,hcl⟩:=v.ready st hi
  have ho:ops[i]?=some ops[i]:=by simp[hil]
  unfold wpOp
  simp only[ho]
  rcases qAu.1 hiL with hiP |hiL
  ·obtain⟨hg,hwp⟩:=v.alloc (Q':=LQ M n C Q E) st hi hiP ho
   rw[if_pos (nI hg _)]
   refine .inl (Oper.wp_mono (fun a' w' ⟨P2,S2',β',e,v2⟩=>ih _ _ _ _ _ _ _ _ _ _ _ v2 ?_) hwp)
   have:=shorter hiP
   rw[e]
   simp only[qAp] at hl ⊢
   omega
  rcases qAu.1 hiL with hiR |hir
  ·obtain⟨q,hq,hqi⟩:=List.mem_map.1 hiR
   obtain⟨_,o',_,ho',_,hg,_⟩:=v.hr q hq
   rw[hqi,ho] at ho';cases ho'
   rw[if_pos (nI hg _)]
   refine .inl (Oper.wp_mono (fun a' w' ⟨R2,S2',e,v2⟩=>ih _ _ _ _ _ _ _ _ _ _ _ v2 ?_) (v.read (Q':=LQ M n C Q E) st hi hiR ho))
   have:=shorter hiR
   rw[e]
   simp only[qAp] at hl ⊢
   omega
  ·obtain⟨pre,post,rfl⟩:=List.append_of_mem hir
   have hic:i∈c:=v.subR.subset (List.mem_append_right _ hir)
   obtain⟨o',_,ho',hg,_⟩:=qV (st.plain i hic)
   rw[ho] at ho';cases ho'
   have hpw:=(List.pairwise_append.1 ((List.pairwise_append.1 (st.pairs.sublist v.subR)).2.1)).2.2
   obtain⟨R2,gl2,S2,e,v2⟩:=Inv.adv pre R gl S v st fun x hx=>by
    have hp:=hpw x hx i (qAt ..)
    have hm:=(hL x (List.mem_append_right _ (List.mem_append_right _ (List.mem_append_left _ hx)))).2
    unfold pairH at hp
    split at hp
    ·rename_i ox oy hox hoy
     simp only[φ,hm,Bool.false_or,beq_iff_eq] at hp
     exact⟨ox,hox,hp.2.1⟩
    ·cases hp
   rw[if_pos (nI hg _)]
   refine .inl (Oper.wp_mono (fun a' w' ⟨gl',S3,S3',h',β',v3⟩=>ih _ _ _ _ _ _ _ _ _ _ _ v3 ?_) (v2.head (Q':=LQ M n C Q E) st hi ho (fun ch h' w' hf he=>⟨v.g.defers,h',hf,he⟩)))
   rw[e]
   simp only[qAp,List.length_cons] at hl ⊢
   omega
theorem ho_start {K:AS→PH→Prop} {r:List Nat}:∀(al:List Nat) (ap:List (Nat×Nat)) (P:List Pd) (gl:List GX) (S S':AS),alP ops al=some ap→(P.map (·.i) ++al).Nodup→(P.map (·.d) ++ap.map (·.2)).Nodup→prep n ops ((al ++r).map .o)=some gl→walk M E gl K S h→Hd P [] S S'→(∀p∈P,Al M C n ops p)→(∀s t,(s,t)∈seps→sepA S s t)→(∀s t,(s,t)∈seps→∀(i:Nat) (o:Oper),ops[i]?=some o→o.dst≠some s∧o.dst≠some t)→G M C n S' h β a w→
  ∃P2 gl2 S2 S2',P2.map (·.i)=P.map (·.i) ++al∧prep n ops (r.map .o)=some gl2∧walk M E gl2 K S2 h∧Hd P2 [] S2 S2'∧(∀p∈P2,Al M C n ops p)∧(∀s t,(s,t)∈seps→sepA S2 s t)∧G M C n S2' h β a w∧S.bx.length≤S2.bx.length∧(∀p∈P2,p∈P∨S.bx.length≤p.j)∧(∀t,t ∉ ap.map (·.2)→lk S2.sl t=lk S.sl t)∧P2.map (·.d)=P.map (·.d) ++ap.map (·.2):=by
 intro al
 induction al with
 | nil=>
  intro ap P gl S S' hal n1 n2 hp hw hd ha hs hso g
  cases hal
  exact⟨P,gl,S,S',by simp,by simpa using hp,hw,hd,ha,hs,g,η _,fun p hp=>.inl hp,fun _ _=>rfl,by simp⟩
 | cons i al ih=>
  intro ap P gl S S' hal n1 n2 hp hw hd ha hs hso g
  simp only[alP] at hal
  split at hal
  ·rename_i d T ty ps af ho
   split at hal
   ·rename_i ap' h2
    cases hal
    obtain⟨gl',hq,hdn,hw'⟩:=uY (i:=i) (r:=al ++r) ho rfl hp hw
    simp only[step1,cls,imA,opt_iff] at hw'
    obtain⟨z,hz,hk⟩:=hw'
    have hnew:∀q∈P,q.i≠i∧q.d≠d:=fun q hq=>by
     simp only[List.map_cons,List.nodup_append] at n1 n2
     exact⟨fun e=>n1.2.2 q.i (List.mem_map.2 ⟨q,hq,rfl⟩) i (qAt ..) e,fun e=>n2.2.2 q.d (List.mem_map.2 ⟨q,hq,rfl⟩) d (qAt ..) e⟩
    have hl:=hd.len
    have hd2:Hd (P ++[⟨i,d,S.bx.length,z⟩]) [] ((S.push z).put (some d) (.p S.bx.length 0)) (S'.push []):=by
     refine⟨by simp[AS.push,AS.put,hl],fun q hq=>?_,fun k hk=>?_,fun q hq=>?_,fun q hq=>?_,fun t ht=>?_,fun q hq=>?_,fun q hq=>by(cases hq),fun t q hq=>?_,fun t k hk=>?_,fun p hp q hq e=>?_⟩
     ·simp only[AS.push,AS.put,qAp,List.length_singleton]
      rcases qAu.1 hq with hq |hq
      ·have:=hd.lt q hq;omega
      ·rw[qBc.1 hq];simp
     ·simp only[AS.push,AS.put,List.getElem?_append,hl]
      split
      ·exact hd.box k fun q hq=>hk q (List.mem_append_left _ hq)
      ·have:S.bx.length≠k:=hk _ (List.mem_append_right _ (qBc.2 rfl))
       rw[List.getElem?_eq_none (by simp;omega),List.getElem?_eq_none (by simp;omega)]
     ·rcases qAu.1 hq with hq |hq
      ·simp only[AS.push,List.getElem?_append]
       rw[if_pos (by rw[hl];exact hd.lt q hq)]
       exact hd.no q hq
      ·rw[qBc.1 hq]
       simp[AS.push,List.getElem?_append,hl]
     ·rcases qAu.1 hq with hq |hq
      ·simp only[AS.push,AS.put,List.getElem?_append]
       rw[if_pos (hd.lt q hq)]
       exact hd.yes q hq
      ·rw[qBc.1 hq]
       simp[AS.push,AS.put,List.getElem?_append]
     ·simp only[AS.push,AS.put,lk_st]
      rw[if_neg (fun e=>ht (.inl ⟨_,List.mem_append_right _ (qBc.2 rfl),e.symm⟩))]
      exact hd.slot t fun k=>k.elim (fun⟨q,hq,e⟩=>ht (.inl ⟨q,List.mem_append_left _ hq,e⟩)) (fun⟨q,hq,_⟩=>by cases hq)
     ·simp only[AS.push,AS.put,lk_st]
      rcases qAu.1 hq with hq |hq
      ·rw[if_neg (hnew q hq).2]
       exact hd.ptr q hq
      ·rw[qBc.1 hq]
       simp
     ·rcases qAu.1 hq with hq |hq
      ·exact hd.fresh t q hq
      ·rw[qBc.1 hq]
       intro e
       have:=g.wf t _ e
       rw[hl] at this
       exact Nat.lt_irrefl _ this
     ·simp only[AS.push,AS.put,lk_st,qAp,List.length_singleton] at hk ⊢
      split at hk
      ·cases hk;omega
      ·have:=hd.wf t k hk;omega
     ·rcases qAu.1 hp with hp |hp<;>rcases qAu.1 hq with hq |hq
      ·exact hd.apart p hp q hq e
      ·rw[qBc.1 hq] at e
       have:=hd.lt p hp
       rcases e with e |e |e
       ·exact((hnew p hp).1 e).elim
       ·simp only at e;omega
       ·exact((hnew p hp).2 e).elim
      ·rw[qBc.1 hp] at e
       have:=hd.lt q hq
       rcases e with e |e |e
       ·exact((hnew q hq).1 e.symm).elim
       ·simp only at e;omega
       ·exact((hnew q hq).2 e.symm).elim
      ·rw[qBc.1 hp,qBc.1 hq]
    have ha2:∀p∈P ++[⟨i,d,S.bx.length,z⟩],Al M C n ops p:=fun q hq=>by
     rcases qAu.1 hq with hq |hq
     ·exact ha q hq
     ·rw[qBc.1 hq]
      exact⟨by have:=g.pin.1;rw[hl] at this;exact this,hdn d rfl,_,T,ho,rfl,rfl,rfl,hz⟩
    have hs2:∀s t,(s,t)∈seps→sepA ((S.push z).put (some d) (.p S.bx.length 0)) s t:=fun s t hst=>by
     obtain⟨m1,m2⟩:=hso s t hst i _ ho
     show ∀k,(lk (Go.Q.st S.sl d _) s).ix=some k→(lk (Go.Q.st S.sl d _) t).ix≠some k
     rw[lk_st,lk_st,if_neg (fun e=>m1 (by rw[e])),if_neg (fun e=>m2 (by rw[e]))]
     exact hs s t hst
    obtain⟨P2,gl2,S2,S2',k1,k2,k3,k4,k5,k6,k7,k8,k9,k10,k11⟩:=ih ap' _ gl' _ _ h2 (by simpa using n1) (by simpa using n2) hq hk hd2 ha2 hs2 hso g.push0
    have hlen:((S.push z).put (some d) (.p S.bx.length 0)).bx.length=S.bx.length+1:=by simp[AS.push,AS.put]
    refine⟨P2,gl2,S2,S2',by rw[k1];simp,k2,k3,k4,k5,k6,k7,by omega,fun p hp=>?_,fun t ht=>?_,by rw[k11];simp⟩
    ·rcases k9 p hp with hp |hp
     ·rcases qAu.1 hp with hp |hp
      ·exact .inl hp
      ·rw[qBc.1 hp];exact .inr (η _)
     ·exact .inr (by omega)
    ·simp only[List.map_cons,List.mem_cons,not_or] at ht
     rw[k10 t ht.2]
     show lk (Go.Q.st S.sl d _) t=_
     rw[lk_st,if_neg ht.1]
   ·cases hal
  ·cases hal
@[go_sem] def ixNe (x y:AV):Prop:=match x,y with
 |.p i _,.p j _=>(i == j)=false
 |.v _,_=>True
 |_,_=>False
def sepsA (S:AS):List (Nat×Nat)→Prop
 |[]=>True
 |(s,t) :: l=>ixNe (S.ev (.tmp s)) (S.ev (.tmp t))∧sepsA S l
theorem DP {S:AS}:∀{l:List (Nat×Nat)},sepsA S l→∀s t,(s,t)∈l→sepA S s t
 |[],_,s,t,h=>by cases h
 | (s',t') :: l,hs,s,t,h=>by
  rcases List.mem_cons.1 h with e |h
  ·cases e
   have h1:=hs.1
   intro k hk e
   change ixNe (lk S.sl s') (lk S.sl t') at h1
   cases hx:lk S.sl s' with
   | p i o=>
    rw[hx] at h1 hk
    cases hy:lk S.sl t' with
    | p j o'=>
     rw[hy] at h1 e
     cases hk;cases e
     simp[ixNe] at h1
    |_=>rw[hy] at h1;exact h1.elim
   |v x=>rw[hx] at hk;cases hk
   |top=>rw[hx] at h1;exact h1.elim
   |s i o l c=>rw[hx] at h1;exact h1.elim
  ·exact DP hs.2 s t h
theorem rY:∀{l:List Nat},aJ l=true→l.Nodup
 |[],_=>List.nodup_nil
 | x :: l,h=>by
  simp only[aJ,φ,Bool.not_eq_true',List.contains_eq_mem,decide_eq_false_iff_not] at h
  exact List.nodup_cons.2 ⟨h.1,rY h.2⟩
theorem edges_of (h:sW ops=true):∀y x,bE ops y x=true→x < ops.size:=by
 intro y x hx
 cases ho:ops[y]? with
 |none=>simp[bE,ho] at hx
 | some o=>
  simp only[bE,ho] at hx
  obtain⟨e,he',hb⟩:=Array.any_eq_true'.1 hx
  simp only[φ,beq_iff_eq] at hb
  have h6:=Array.all_eq_true_iff_forall_mem.1 (Array.all_eq_true_iff_forall_mem.1 h o (Array.mem_of_getElem? ho)) e he'
  simp only[hb.1,Bool.not_true,Bool.false_or,decide_eq_true_eq] at h6
  rw[←hb.2];exact h6
theorem dsts_of (hs:seps.all (fun s=>ops.all fun o=>o.dst != some s.1 && o.dst != some s.2)=true):∀s t,(s,t)∈seps→∀(i:Nat) (o:Oper),ops[i]?=some o→o.dst≠some s∧o.dst≠some t:=by
 intro s t hst i o ho
 have h1:=qBd.1 hs (s,t) hst
 have h2:=Array.all_eq_true_iff_forall_mem.1 h1 o (Array.mem_of_getElem? ho)
 simpa using h2
theorem hoR {id:Nat} (seps sepn:List (Nat×Nat)) (al c:List Nat) (hc:hoOk n ops seps sepn al c=true) (hs:sepsA S seps) (hw:walkO M E ops.toList (pickO ops.toList (al ++c)) (Q .normal) S h):AWP M n C (.region id ops true) Q E S h:=by
 simp only[hoOk,φ] at hc
 obtain⟨⟨⟨⟨⟨⟨⟨⟨⟨⟨⟨⟨h1,h2⟩,h3⟩,h4⟩,h5⟩,h6⟩,h7⟩,h8⟩,h9⟩,h10⟩,h11⟩,h12⟩,h13⟩:=hc
 obtain⟨gl,hgl⟩:=Option.isSome_iff_exists.1 h6
 rw[oE _ gl hgl] at hw
 have hnd:=rY h3
 have hlt:∀j∈al ++c,j < ops.size:=fun j hj=>by simpa[Nat.blt_eq] using qBd.1 h5 j hj
 have hso:=dsts_of h12
 have hsc:∀s t,(s,t)∈seps ++sepn→∀i∈c,∀(o:Oper),ops[i]?=some o→o.dst≠some s∧o.dst≠some t:=by
  intro s t hst i hi o ho
  rcases qAu.1 hst with hst |hst
  ·exact hso s t hst i o ho
  ·have:=qBd.1 (qBd.1 h13 (s,t) hst) i hi
   rw[ho] at this
   simpa using this
 have hst:Stat n ops (seps ++sepn) al c:=by
  refine⟨edges_of h1,fun x hx=>?_,hnd,hlt,fun i hi=>qBd.1 h8 i hi,FI h9,fun p hp y hy=>qBd.1 (qBd.1 h10 p hp) y hy,(FI h11).imp (fun h=>by simpa using h),hsc⟩
  have:=qBd.1 h2 x (List.mem_range.2 hx)
  simpa using this
 split at h7
 ·rename_i ap hap
  simp only[φ] at h7
  intro β a w g0
  refine wp_region_any M.mixed ?_
  have g:=g0.below (gt w)
  have hd0:Hd [] [] S S:=⟨rfl,by simp,fun _ _=>rfl,by simp,by simp,fun _ _=>rfl,by simp,by simp,fun _ p hp=>by(cases hp),g.wf,by simp⟩
  obtain⟨P2,gl2,S2,S2',k1,k2,k3,k4,k5,k6,k7,k8,k9,k10,k11⟩:=ho_start (K:=Q .normal) (seps:=seps) al ap [] gl S S hap (by simpa using (List.nodup_append.1 hnd).1) (by simpa using rY h7.1) hgl hw hd0 (by simp) (DP hs) hso g
  simp only[List.map_nil,List.nil_append] at k1
  have hsep:∀s t,(s,t)∈seps ++sepn→sepA S2 s t:=by
   intro s t hst'
   rcases qAu.1 hst' with hst' |hst'
   ·exact k6 s t hst'
   ·have hb:=qBd.1 h7.2 (s,t) hst'
    simp only[φ,List.contains_eq_mem,decide_eq_true_eq,Bool.not_eq_true',decide_eq_false_iff_not] at hb
    intro i hi e
    rw[k10 s hb.2] at hi
    have hil:=g.wf s i hi
    simp only[List.map_nil,List.nil_append] at k11
    have htm:t∈P2.map (·.d):=by rw[k11];exact hb.1
    obtain⟨p,hp,rfl⟩:=List.mem_map.1 htm
    rw[k4.ptr p hp] at e
    cases e
    rcases k9 p hp with h |h
    ·cases h
    ·exact Nat.lt_irrefl _ (Nat.lt_of_lt_of_le hil h)
  have hall:∀j,j < ops.size→j∈al ++c:=rt ops.size (al ++c) hnd hlt (by simpa using h4)
  refine any_inv hst ops.size _ P2 [] c gl2 S2 S2' h β a _ ⟨k4,k7,k5,by simp,hsep,by rw[k1];exact List.Sublist.refl _,by simp,by simp,fun j hj=>?_,fun j hj=>?_,k2,k3⟩ ?_
  ·rw[k1]
   simp only[List.map_nil,List.nil_append]
   exact⟨fun _=>hall j hj,fun _=>by simp[hj]⟩
  ·exfalso
   rcases qBj j ops.size with h |h
   ·simp[h] at hj
   ·simp[Nat.not_lt.2 h] at hj
  ·rw[k1]
   simp only[List.map_nil,List.nil_append]
   have:(al ++c).length=ops.size:=by simpa using h4
   omega
 ·cases h7
theorem sepsA_n {S:AS}:sepsA S []=True:=rfl
theorem sepsA_c {S:AS} (s t:Nat) (l:List (Nat×Nat)):sepsA S ((s,t) :: l)=(ixNe (S.ev (.tmp s)) (S.ev (.tmp t))∧sepsA S l):=rfl
attribute [go_sem] sepsA_n sepsA_c
end
end Go.Q
