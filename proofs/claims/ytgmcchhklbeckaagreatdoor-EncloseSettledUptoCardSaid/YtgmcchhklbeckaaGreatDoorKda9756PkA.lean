/-
  A region may be walked in one fixed order, and what stands on it. Conditions: each theorem's own.
-/
import Derived.OrdersHeld
import Derived.Below
import Derived.KernelRfl
import Derived.OrdersIn
import Derived.RangeFuncNested
import Derived.RangeFuncBound
import Derived.RangeFuncCalls
import Derived.RangeFuncLeaves
import Derived.Shelf.SlIter.Nil
import Derived.Shelf.SortM.Plain
import Derived.Shelf.SortM.SortNone
import Derived.Ground.GgzProg
import Derived.Ground.SlgmProg
import Derived.Test.YtgmcchhklbeckaaGreatDoorProg
import Derived.Shelf.Abstract
import Derived.WalkKit
import Derived.OwnWalkIn
import Derived.TacticsInMore
import Derived.LoopNIn
import Derived.LoopIn
import Derived.Maps.OwnIn
set_option linter.unusedVariables false
set_option linter.unusedSimpArgs false
open Nat renaming reduceAdd→ζ,le_trans→χ,le_refl→η,mul_comm→ρ,lt_or_ge→qBj
open Bool renaming and_eq_true→φ
open List renaming mem_cons_self→qAt,mem_append→qAu,getD_eq_getElem?_getD→qAy,all_eq_true→qBd
namespace Go.Q
open Go.RowKit (Below)
def nilB (a:Array Operand):Bool:=match a.toList with
 |.const (.slice none 0 0) :: _=>true
 |_=>false
def cls:Op→Nat
 |.move _ |.assign _ |.pick .. |.load .. |.binOp .. |.unOp .. |.convert .. |.fieldAddr .. |.field .. |.indexAddr .. |.index .. |.extract .. |.slice .. |.build .. |.makeFunc .. |.makeInterface .. |.nilCheck _ |.typeAssert ..=>0
 |.call {callee:=.builtin .len,..} |.call {callee:=.builtin .cap,..} |.call {callee:=.builtin .min,..} |.call {callee:=.builtin .max,..}=>0
 |.store .. |.call {callee:=.builtin .copy,..}=>2
 |.call {callee:=.builtin .append,args,..}=>bif nilB args then 1 else 2
 |.call {callee:=.value (.func f),..}=>if f=252∨f=151 then 2 else 1
 |_=>1
section
variable (P:Program) (ops:Array Oper) (Q:Exit→Act→World→Prop)
def RdC (o:Oper) (a:Act) (w:World) (v:Value):Prop:=
 ∀w',Below w.heap.size w w'→(execOp a.eval o).run P w'=.ok (.value v) w'
def RWc :List Nat→Act→World→Prop
 |[],a,w=>Q .normal a w
 | i :: c,a,w=>match ops[i]? with
  |none=>False
  | some o=>
   if Region.wanted o (yielded ops a.tmps)=true then
    if cls o.op=0 then ∃v,RdC P o a w v∧RWc c (a.put o.dst v) w
    else o.wp P a w (fun a' w'=>(cls o.op=2∨Below w.heap.size w w')∧RWc c a' w') Q
   else RWc c (a.put o.dst undef) w
end
section
variable {P:Program} {ops:Array Oper} {Q:Exit→Act→World→Prop}
theorem RdC.later {o:Oper} {a:Act} {w w1:World} {v:Value} (h:RdC P o a w v) (hb:Below w.heap.size w w1):RdC P o a w1 v:=
 fun w' hb'=>h w' (hb.trans (hb'.mono hb.size))
def Yx (P:Program) (ops:Array Oper) (o:Oper) (v:Value) (a:Act) (w:World):Prop:=
 (Region.wanted o (yielded ops a.tmps)=true∧RdC P o a w v)∨(Region.wanted o (yielded ops a.tmps)=false∧v=undef)
theorem fE {i:Nat} {o:Oper} {c:List Nat} {a:Act} {w:World} (hi:ops[i]?=some o) (hc:cls o.op=0):
  RWc P ops Q (i :: c) a w↔∃v,Yx P ops o v a w∧RWc P ops Q c (a.put o.dst v) w:=by
 simp only[RWc,hi,hc,if_true,Yx]
 by_cases hw:Region.wanted o (yielded ops a.tmps)=true
 ·simp[hw]
 ·simp[hw]
theorem jP {i:Nat} {o:Oper} {c:List Nat} {a:Act} {w:World} (hi:ops[i]?=some o) (hc:cls o.op≠0):
  RWc P ops Q (i :: c) a w↔(if Region.wanted o (yielded ops a.tmps)=true then o.wp P a w (fun a' w'=>(cls o.op=2∨Below w.heap.size w w')∧RWc P ops Q c a' w') Q
   else RWc P ops Q c (a.put o.dst undef) w):=by
 simp only[RWc,hi,hc,if_false]
theorem Yx.of_same {o:Oper} {v:Value} {a a':Act} {w:World} (hy:Yx P ops o v a w) (he:execOp a'.eval o=execOp a.eval o)
  (hw:Region.wanted o (yielded ops a'.tmps)=Region.wanted o (yielded ops a.tmps)):Yx P ops o v a' w:=by
 unfold Yx RdC at*
 rw[he,hw]
 exact hy
theorem Yx.later {o:Oper} {v:Value} {a:Act} {w w1:World} (hy:Yx P ops o v a w) (hb:Below w.heap.size w w1):Yx P ops o v a w1:=
 hy.imp (fun h=>⟨h.1,h.2.later hb⟩) id
theorem nf {o:Oper} {a:Act} {w:World} {K K':Act→World→Prop} (h:∀a w,K a w→K' a w)
  (hh:o.wp P a w K Q):o.wp P a w K' Q:=Oper.wp_mono h hh
theorem wp_put {ox oi:Oper} {v:Value} (hap:ox.apart ops oi=true)
  (hsx:∀cs b,ox.op≠.select cs b) (hsi:∀cs b,oi.op≠.select cs b)
  (hQ:∀c a d v w,Q (.panic c) (Act.put a d v) w→Q (.panic c) a w) {K:Act→World→Prop} {a:Act} {w:World}
  (h:oi.wp P (a.put ox.dst v) w (fun a' w'=>Below w.heap.size w w'∧K a' w') Q) (hy:Yx P ops ox v a w):
  oi.wp P a w (fun a' w'=>Below w.heap.size w w'∧Yx P ops ox v a' w'∧K (a'.put ox.dst v) w') Q:=by
 obtain⟨h1,h2,h3⟩:=Oper.apart_spec hap
 have keep:∀(a:Act) (w:World),Yx P ops ox v a w→∀u,Yx P ops ox v (a.put oi.dst u) w:=fun a w hy u=>
  hy.of_same (execOp_put ox hsx a oi.dst u h3) (wanted_put ox a oi.dst u h3)
 have keepD:∀d,Yx P ops ox v {a with defers:=d :: a.defers} w:=fun d=>hy.of_same rfl rfl
 unfold Oper.wp at*
 rw[execOp_put oi hsi a ox.dst v h1] at h
 generalize(execOp a.eval oi).run P w=r at*
 cases r with
 | ok n w'=>
  cases n<;>simp only[Oper.upon] at h ⊢
  case value u=>exact⟨h.1,(keep a w hy u).later h.1,by rw[←Act.put_comm a v u h2];exact h.2⟩
  case skip=>exact⟨h.1,(keep a w hy _).later h.1,by rw[←Act.put_comm a v undef h2];exact h.2⟩
  case defer d=>
   refine⟨h.1,(keep _ w (keepD d) _).later h.1,?_⟩
   rw[←Act.put_comm _ v undef h2,←Act.put_defers]
   exact h.2
  case enter f args=>
   refine Calls.mono h fun e w'' he=>?_
   cases e with
   |returned u=>exact⟨he.1,(keep a w hy u).later he.1,by rw[←Act.put_comm a v u h2];exact he.2⟩
   |panicked c=>exact hQ _ _ _ _ _ he
   |outgrown=>exact he
  case row row args=>exact Rows.mono h fun u w'' he=>⟨he.1,(keep a w hy u).later he.1,by rw[←Act.put_comm a v u h2];exact he.2⟩
 | halt x w'=>
  cases x<;>simp only[Oper.upon] at h ⊢
  case panic u=>exact hQ _ _ _ _ _ h
theorem um {i:Nat} {oi:Oper} (hi:ops[i]?=some oi) (hsel:∀(j:Nat) (o:Oper) cs b,ops[j]?=some o→o.op≠.select cs b)
  (hQ:∀c a d v w,Q (.panic c) (Act.put a d v) w→Q (.panic c) a w) (post:List Nat):
  ∀ (pre:List Nat) (a:Act) (w:World),(pre=[]∨cls oi.op≠2)→
   (∀x∈pre,∃ox,ops[x]?=some ox∧cls ox.op=0∧ox.apart ops oi=true)→
   RWc P ops Q (pre ++i :: post) a w→RWc P ops Q (i :: (pre ++post)) a w:=by
 intro pre
 induction pre with
 |nil=>intro a w _ _ h;exact h
 | cons x pre ih=>
  intro a w hc hx h
  have hc2:cls oi.op≠2:=hc.resolve_left (by simp)
  obtain⟨ox,hox,hcx,hap⟩:=hx x (qAt ..)
  obtain⟨h1,h2,h3⟩:=Oper.apart_spec hap
  rw[List.cons_append,fE hox hcx] at h
  obtain⟨v,hy,h⟩:=h
  have h:=ih (a.put ox.dst v) w (.inr hc2) (fun y hy=>hx y (List.mem_cons_of_mem _ hy)) h
  have keep:∀u,Yx P ops ox v (a.put oi.dst u) w:=fun u=>
   hy.of_same (execOp_put ox (fun cs b=>hsel x ox cs b hox) a oi.dst u h3) (wanted_put ox a oi.dst u h3)
  have hwi:Region.wanted oi (yielded ops (a.put ox.dst v).tmps)=Region.wanted oi (yielded ops a.tmps):=wanted_put oi a ox.dst v h1
  have hei:execOp (a.put ox.dst v).eval oi=execOp a.eval oi:=execOp_put oi (fun cs b=>hsel i oi cs b hi) a ox.dst v h1
  by_cases hci:cls oi.op=0
  ·rw[fE hi hci] at h ⊢
   obtain⟨u,hu,h⟩:=h
   refine⟨u,hu.of_same hei.symm hwi.symm,?_⟩
   rw[List.cons_append,fE hox hcx]
   exact⟨v,keep u,by rw[←Act.put_comm a v u h2];exact h⟩
  ·rw[jP hi hci] at h ⊢
   rw[hwi] at h
   split
   ·rename_i hw
    rw[if_pos hw] at h
    have h':oi.wp P (a.put ox.dst v) w (fun a' w'=>Below w.heap.size w w'∧RWc P ops Q (pre ++post) a' w') Q:=
     nf (fun a' w' k=>⟨k.1.resolve_left hc2,k.2⟩) h
    refine nf (fun a' w' k=>⟨.inr k.1,?_⟩) (wp_put hap (fun cs b=>hsel x ox cs b hox) (fun cs b=>hsel i oi cs b hi) hQ h' hy)
    rw[List.cons_append,fE hox hcx]
    exact⟨v,k.2.1,k.2.2⟩
   ·rename_i hw
    rw[if_neg hw] at h
    rw[List.cons_append,fE hox hcx]
    exact⟨v,keep undef,by rw[←Act.put_comm a v undef h2];exact h⟩
def bE (ops:Array Oper) (y x:Nat):Bool:=match ops[y]? with
 |some o=>o.after.any fun e=>Region.binds .any e && e.on == x
 |none=>false
inductive Reach (ops:Array Oper):Nat→Nat→Prop where
 |one {y x}:bE ops y x=true→Reach ops y x
 |more {y z x}:bE ops y z=true→Reach ops z x→Reach ops y x
def bF (ops:Array Oper):Nat→List Nat
 |0=>[]
 | n +1=>
  let acc:=bF ops n
  acc ++[match ops[n]? with
   |some o=>o.after.toList.foldl (fun s e=>if Region.binds .any e then s ||| 2^e.on ||| acc.getD e.on 0 else s) 0
   |none=>0]
theorem km (n:Nat):(bF ops n).length=n:=by
 induction n with
 |zero=>rfl
 |succ n ih=>simp[bF,ih]
theorem Ft {n y:Nat} (h:y < n):(bF ops n).getD y 0=(bF ops (y+1)).getD y 0:=by
 induction n with
 |zero=>omega
 | succ n ih=>
  by_cases hy:y=n
  ·subst hy;rfl
  ·rw[show(bF ops (n+1)).getD y 0=(bF ops n).getD y 0 from by
    simp only[bF,qAy]
    rw[List.getElem?_append_left (by rw[km];omega)]]
   exact ih (by omega)
theorem Je (acc:List Nat) (x:Nat):∀(es:List Edge) (s:Nat),
  (es.foldl (fun s e=>if Region.binds .any e then s ||| 2^e.on ||| acc.getD e.on 0 else s) s).testBit x=true→
  s.testBit x=true∨∃e∈es,Region.binds .any e=true∧(e.on=x∨(acc.getD e.on 0).testBit x=true):=by
 intro es
 induction es with
 |nil=>intro s h;exact .inl h
 | cons e es ih=>
  intro s h
  rw[List.foldl_cons] at h
  rcases ih _ h with h |⟨e',he',hb,h⟩
  ·split at h
   ·rename_i hb
    rw[Nat.testBit_or,Nat.testBit_or,Bool.or_eq_true,Bool.or_eq_true] at h
    rcases h with (h |h) |h
    ·exact .inl h
    ·refine .inr ⟨e,qAt ..,hb,.inl ?_⟩
     rw[Nat.testBit_two_pow] at h
     simpa using h
    ·exact .inr ⟨e,qAt ..,hb,.inr h⟩
   ·exact .inl h
  ·exact .inr ⟨e',List.mem_cons_of_mem _ he',hb,h⟩
theorem nX:∀(n y x:Nat),y < n→((bF ops n).getD y 0).testBit x=true→Reach ops y x:=by
 intro n
 induction n using Nat.strongRecOn with
 | _ n ih=>
  intro y x hy h
  rw[Ft hy] at h
  have e:(bF ops (y+1)).getD y 0=(match ops[y]? with
   |some o=>o.after.toList.foldl (fun s e=>if Region.binds .any e then s ||| 2^e.on ||| (bF ops y).getD e.on 0 else s) 0
   |none=>0):=by
   simp only[bF,qAy]
   rw[List.getElem?_append_right (by rw[km];omega)]
   simp[km]
  rw[e] at h
  cases ho:ops[y]? with
  |none=>rw[ho] at h;simp at h
  | some o=>
   rw[ho] at h
   rcases Je _ _ _ _ h with h |⟨e,he,hb,h⟩
   ·simp at h
   ·have hd:bE ops y e.on=true:=by
     simp only[bE,ho]
     exact Array.any_eq_true'.2 ⟨e,Array.mem_toList_iff.1 he,by simp[hb]⟩
    rcases h with h |h
    ·subst h;exact .one hd
    ·have hlt:e.on < y:=by
      rcases qBj e.on y with h' |h'
      ·exact h'
      ·exfalso
       rw[qAy,List.getElem?_eq_none (by rw[km];exact h')] at h
       simp at h
     exact .more hd (ih y hy e.on x hlt h)
def me (ops:Array Oper) (masks:List Nat) (x y:Nat):Bool:=
 !bE ops x y && ((masks.getD y 0).testBit x || match ops[x]?,ops[y]? with
  |some ox,some oy=>cls ox.op == 0 && cls oy.op != 2 && ox.apart ops oy
  |_,_=>false)
def wt (ops:Array Oper) (masks:List Nat):List Nat→Bool
 |[]=>true
 |x :: c=>c.all (fun y=>me ops masks x y) && wt ops masks c
def sW (ops:Array Oper):Bool:=ops.all fun o=>o.after.all fun e=>!Region.binds .any e || e.on < ops.size
def aJ:List Nat→Bool
 |[]=>true
 |x :: c=>!c.contains x && aJ c
def fi (ops:Array Oper) (c:List Nat):Bool:=
 c.length == ops.size && c.all (· < ops.size) && aJ c && sW ops && c.all (fun x=>!bE ops x x) && Region.noSelect ops && wt ops (bF ops ops.size) c
structure Good (ops:Array Oper) (listed:Array Bool) (c:List Nat):Prop where
 size:listed.size=ops.size
 mem:∀j,j < ops.size→(listed.getD j false=false↔j∈c)
 lt:∀j∈c,j < ops.size
 nodup:c.Nodup
 pairs:c.Pairwise fun x y=>me ops (bF ops ops.size) x y=true
 closed:∀j,listed.getD j false=true→∀x,bE ops j x=true→listed.getD x false=true
 edges:∀y x,bE ops y x=true→x < ops.size
 irr:∀x∈c,bE ops x x=false
theorem po {listed:Array Bool} (hcl:∀j,listed.getD j false=true→∀x,bE ops j x=true→listed.getD x false=true) {y x:Nat} (h:Reach ops y x):
  (∀z,bE ops y z=true→listed.getD z false=true)→listed.getD x false=true:=by
 induction h with
 |one h=>exact fun hy=>hy _ h
 |more h _ ih=>exact fun hy=>ih (fun z hz=>hcl _ (hy _ h) z hz)
theorem GV {listed:Array Bool} {j:Nat} (h:j < listed.size):listed.getD j true=listed.getD j false:=by
 simp[h]
theorem iO {listed:Array Bool} {j:Nat} (hs:listed.size=ops.size):j∈Region.ready .any ops listed↔
  j < ops.size∧listed.getD j false=false∧∀x,bE ops j x=true→listed.getD x false=true:=by
 rw[mem_ready]
 constructor
 ·rintro⟨h0,o,ho,hall⟩
  have hlt:j < ops.size:=(Array.getElem?_eq_some_iff.1 ho).1
  refine⟨hlt,by rw[←GV (by omega)];exact h0,fun x hx=>?_⟩
  simp only[bE,ho] at hx
  obtain⟨e,he,hb⟩:=Array.any_eq_true'.1 hx
  simp only[φ,beq_iff_eq] at hb
  rw[←hb.2];exact hall e he hb.1
 ·rintro⟨hlt,h0,hall⟩
  refine⟨by rw[GV (by omega)];exact h0,ops[j],by simp[hlt],fun e he hb=>hall _ ?_⟩
  simp only[bE,Array.getElem?_eq_getElem hlt]
  exact Array.any_eq_true'.2 ⟨e,he,by simp[hb]⟩
theorem B8 (hsel:∀(j:Nat) (o:Oper) cs b,ops[j]?=some o→o.op≠.select cs b)
    (hQ:∀c a d v w,Q (.panic c) (Act.put a d v) w→Q (.panic c) a w):
    ∀ (fuel:Nat) (c:List Nat) (listed:Array Bool) (a:Act) (w:World),Good ops listed c→c.length≤fuel→RWc P ops Q c a w→
      wpAny P .any ops Q fuel listed a w:=by
  have headReady:∀(c:List Nat) (listed:Array Bool) (i:Nat),Good ops listed (i :: c)→i∈Region.ready .any ops listed:=by
    intro c listed i hg
    rw[iO hg.size]
    have hi:=hg.lt i (qAt ..)
    refine⟨hi,(hg.mem i hi).2 (qAt ..),fun x hx=>?_⟩
    have hxl:=hg.edges _ _ hx
    cases hl:listed.getD x false with
    |true=>rfl
    | false=>
      have hxc:=(hg.mem x hxl).1 hl
      rcases List.mem_cons.1 hxc with rfl |hxc
      · rw[hg.irr x (qAt ..)] at hx;cases hx
      · have:=(List.pairwise_cons.1 hg.pairs).1 x hxc
        simp[me,hx] at this
  intro fuel
  induction fuel with
  | zero=>
    intro c listed a w hg hl h
    obtain rfl:c=[]:=List.eq_nil_of_length_eq_zero (by omega)
    refine⟨?_,h⟩
    apply List.eq_nil_iff_forall_not_mem.2
    intro j hj
    have:=(iO hg.size).1 hj
    have:=(hg.mem j this.1).1 this.2.1
    cases this
  | succ fuel ih=>
    intro c listed a w hg hl h
    refine⟨fun hr=>?_,fun i hi=>?_⟩
    · cases c with
      |nil=>exact h
      |cons i c=>have:=headReady c listed i hg;rw[hr] at this;cases this
    · have hri:=(iO hg.size).1 hi
      have hic:i∈c:=(hg.mem i hri.1).1 hri.2.1
      obtain⟨pre,post,rfl⟩:=List.append_of_mem hic
      have hoi:ops[i]?=some ops[i]:=by simp[hri.1]
      have hpw:=List.pairwise_append.1 hg.pairs
      have hpre:∀x∈pre,∃ox,ops[x]?=some ox∧cls ox.op=0∧cls ops[i].op≠2∧ox.apart ops ops[i]=true:=by
        intro x hx
        have hp:=hpw.2.2 x hx i (qAt ..)
        have hxlt:=hg.lt x (List.mem_append_left _ hx)
        have hun:listed.getD x false=false:=(hg.mem x hxlt).2 (List.mem_append_left _ hx)
        have hnm:((bF ops ops.size).getD i 0).testBit x=false:=by
          cases hb:((bF ops ops.size).getD i 0).testBit x with
          |false=>rfl
          | true=>
            have:=po hg.closed (nX _ i x hri.1 hb) hri.2.2
            rw[hun] at this;cases this
        simp only[me,hnm,Bool.false_or,hoi,Array.getElem?_eq_getElem hxlt,φ,beq_iff_eq,bne_iff_ne] at hp
        exact⟨ops[x],by simp[hxlt],hp.2.1.1,hp.2.1.2,hp.2.2⟩
      have hc2:pre=[]∨cls ops[i].op≠2:=by
        cases pre with
        |nil=>exact .inl rfl
        |cons x pre=>obtain⟨_,_,_,h2,_⟩:=hpre x (qAt ..);exact .inr h2
      have hf:=um hoi hsel hQ post pre a w hc2 (fun x hx=>let ⟨ox,h1,h2,_,h4⟩:=hpre x hx;⟨ox,h1,h2,h4⟩) h
      have hg':Good ops (listed.setIfInBounds i true) (pre ++post):=by
        have hnd:=hg.nodup
        have hni:i ∉ pre ++post:=by
          rw[List.nodup_append] at hnd
          intro hm
          rcases qAu.1 hm with hm |hm
          · exact hnd.2.2 i hm i (qAt ..) rfl
          · exact(List.nodup_cons.1 hnd.2.1).1 hm
        have hsub:(pre ++post).Sublist (pre ++i :: post):=List.Sublist.append (List.Sublist.refl _) (List.sublist_cons_self ..)
        refine⟨by simpa using hg.size,fun j hj=>?_,fun j hj=>hg.lt j (hsub.subset hj),hnd.sublist hsub,hg.pairs.sublist hsub,fun j hj x hx=>?_,hg.edges,fun x hx=>hg.irr x (hsub.subset hx)⟩
        · by_cases hij:i=j
          · subst hij
            have:(listed.setIfInBounds i true).getD i false=true:=by simp[hg.size,hj]
            simp only[this,Bool.true_eq_false,false_iff]
            exact hni
          · rw[getD_set_ne false hij,hg.mem j hj]
            simp only[qAu,List.mem_cons]
            constructor
            · rintro(h |h |h)
              · exact .inl h
              · exact absurd h.symm hij
              · exact .inr h
            · rintro(h |h)
              · exact .inl h
              · exact .inr (.inr h)
        · by_cases hij:i=j
          · subst hij;exact getD_set_true (hri.2.2 x hx)
          · rw[getD_set_ne false hij] at hj
            exact getD_set_true (hg.closed j hj x hx)
      have hlen:(pre ++post).length≤fuel:=by simp at hl ⊢;omega
      unfold wpOp
      simp only[hoi]
      by_cases hci:cls ops[i].op=0
      · rw[fE hoi hci] at hf
        obtain⟨v,hy,hf⟩:=hf
        have hk:=ih (pre ++post) _ _ w hg' hlen hf
        rcases hy with⟨hw,hv⟩ |⟨hw,rfl⟩
        · rw[if_pos hw]
          refine .inl ?_
          simp only[Oper.wp,hv w (Below.refl _ _),Oper.upon]
          exact hk
        · rw[if_neg (by rw[hw];simp)]
          exact hk
      · rw[jP hoi hci] at hf
        split
        · rename_i hw
          rw[if_pos hw] at hf
          exact .inl (Oper.wp_mono (fun a' w' k=>ih (pre ++post) _ a' w' hg' hlen k.2) hf)
        · rename_i hw
          rw[if_neg hw] at hf
          exact ih (pre ++post) _ _ w hg' hlen hf
theorem rZ:∀{c:List Nat},aJ c=true→c.Nodup
 |[],_=>List.nodup_nil
 | x :: c,h=>by
  simp only[aJ,φ,Bool.not_eq_true',List.contains_eq_mem,decide_eq_false_iff_not] at h
  exact List.nodup_cons.2 ⟨h.1,rZ h.2⟩
theorem yk {m:List Nat}:∀{c:List Nat},wt ops m c=true→c.Pairwise fun x y=>me ops m x y=true
 |[],_=>.nil
 | x :: c,h=>by
  simp only[wt,φ,qBd] at h
  exact .cons h.1 (yk h.2)
theorem rt:∀(n:Nat) (c:List Nat),c.Nodup→(∀x∈c,x < n)→c.length=n→∀j,j < n→j∈c:=by
 intro n
 induction n with
 |zero=>intro c _ _ _ j hj;omega
 | succ n ih =>
  intro c hnd hlt hlen j hj
  have hn : n ∈c:=by
   rcases Classical.em (n∈c) with h |h
   ·exact h
   ·exfalso
    have hlt':∀x∈c,x < n:=fun x hx=>by
     have:=hlt x hx
     have:x≠n:=fun e=>h (e▸hx)
     omega
    have:∀(m:Nat) (d:List Nat),d.Nodup→(∀x∈d,x < m)→d.length≤m:=by
     intro m
     induction m with
     |zero=>intro d _ hd;cases d with |nil=>simp |cons y d=>have:=hd y (qAt ..);omega
     | succ m ihm=>
      intro d hdn hd
      by_cases hm:m∈d
      ·have h1:=ihm (d.erase m) (hdn.erase m) (fun x hx=>by
        have h2:=hd x (List.mem_of_mem_erase hx)
        have h3:x≠m:=fun e=>by subst e;exact(List.Nodup.not_mem_erase hdn) hx
        omega)
       rw[List.length_erase_of_mem hm] at h1
       have:0 < d.length:=List.length_pos_of_mem hm
       omega
      ·have:=ihm d hdn (fun x hx=>by
        have h2:=hd x hx
        have h3:x≠m:=fun e=>hm (e▸hx)
        omega)
       omega
    have:=this n c hnd hlt'
    omega
  by_cases hjn:j=n
  ·subst hjn;exact hn
  ·have hm:=ih (c.erase n) (hnd.erase n) (fun x hx=>by
     have h2:=hlt x (List.mem_of_mem_erase hx)
     have h3:x≠n:=fun e=>by subst e;exact(List.Nodup.not_mem_erase hnd) hx
     omega) (by rw[List.length_erase_of_mem hn];omega) j (by omega)
   exact List.mem_of_mem_erase hm
theorem Fk {c:List Nat} (h:fi ops c=true):Good ops (Array.replicate ops.size false) c:=by
 simp only[fi,φ,beq_iff_eq,qBd,decide_eq_true_eq,Bool.not_eq_true'] at h
 obtain⟨⟨⟨⟨⟨⟨h1,h2⟩,h3⟩,h4⟩,h5⟩,_⟩,h7⟩:=h
 have hnd:=rZ h3
 refine⟨by simp,fun j hj=>?_,h2,hnd,yk h7,fun j hj=>?_,fun y x hx=>?_,h5⟩
 ·have:=rt ops.size c hnd h2 h1 j hj
  simp[hj,this]
 ·exfalso
  rcases qBj j ops.size with h |h
  ·simp[h] at hj
  ·simp[Nat.not_lt.2 h] at hj
 ·cases ho:ops[y]? with
  |none=>simp[bE,ho] at hx
  | some o=>
   simp only[bE,ho] at hx
   obtain⟨e,he,hb⟩:=Array.any_eq_true'.1 hx
   simp only[φ,beq_iff_eq] at hb
   have h6:=Array.all_eq_true_iff_forall_mem.1 (Array.all_eq_true_iff_forall_mem.1 h4 o (Array.mem_of_getElem? ho)) e he
   simp only[hb.1,Bool.not_true,Bool.false_or,decide_eq_true_eq] at h6
   rw[←hb.2];exact h6
theorem Eh {id:Nat} {a:Act} {w:World} (hm:P.follows .mixedOrders=true) (c:List Nat) (hc:fi ops c=true)
  (hQ:∀c a d v w,Q (.panic c) (Act.put a d v) w→Q (.panic c) a w) (h:RWc P ops Q c a {w with drawn:=w.drawn+1}):
  (Code.region id ops true).wp P Q a w:=by
 have hg:=Fk hc
 have hs:Region.noSelect ops=true:=by simp only[fi,φ] at hc;exact hc.1.2
 have hl:c.length=ops.size:=by simp only[fi,φ,beq_iff_eq] at hc;exact hc.1.1.1.1.1.1
 exact wp_region_any hm (B8 (Region.noSelect_spec hs) hQ _ c _ a _ hg (by omega) h)
theorem tY:∀(c:List Nat) (a:Act) (w:World),RWc P ops Q c a w→wpOps P ops Q c a w:=by
 intro c
 induction c with
 |nil=>intro a w h;exact h
 | cons i c ih=>
  intro a w h
  rw[wpOps_cons]
  unfold wpOp
  cases hi:ops[i]? with
  |none=>simp[RWc,hi] at h
  | some o=>
   simp only[]
   by_cases hc:cls o.op=0
   ·obtain⟨v,hy,h⟩:=(fE hi hc).1 h
    rcases hy with⟨hw,hv⟩ |⟨hw,rfl⟩
    ·rw[if_pos hw]
     refine .inl ?_
     simp only[Oper.wp,hv w (Below.refl _ _),Oper.upon]
     exact ih _ _ h
    ·rw[if_neg (by rw[hw];simp)]
     exact ih _ _ h
   ·have h:=(jP hi hc).1 h
    split
    ·rename_i hw
     rw[if_pos hw] at h
     exact .inl (Oper.wp_mono (fun a' w' k=>ih a' w' k.2) h)
    ·rename_i hw
     rw[if_neg hw] at h
     exact ih _ _ h
theorem eK {id:Nat} {a:Act} {w:World} (h:RWc P ops Q (List.range ops.size) a w):(Code.region id ops false).wp P Q a w:=
 wp_region (tY _ _ _ h)
end
open Go.RowKit (Below)
section
variable {F:Fence} {n:Nat} {P:Program} {ops:Array Oper} {Q:Exit→Act→World→Prop}
end
end Go.Q
namespace Go.Q
open Go.RowKit
end Go.Q
namespace Go.Q
open Go.Proofs Go.Shelf Go.RowKit Go.Maps Go.Sort
def keysRen:Go.Shelf.Ren:=⟨fun |7=>92 |10=>158 |n=>n,fun |23=>138 |26=>9 |3=>4 |28=>143 |0=>0 |27=>142 |33=>54 |4=>4 |n=>n,fun |n=>n⟩
theorem keysLay:Go.Proofs.SlLaysZ.n7 Tryz.prog keysRen:={
 mixed:=by kernel_rfl
 f7:=⟨Tryz.f92.name,by decide,Tryz.func92.trans (congrArg some (by kernel_rfl))⟩
 f10:=⟨Tryz.f158.name,by decide,Tryz.func158.trans (congrArg some (by kernel_rfl))⟩
 t0:=Tryz.underlying0
 a0:=Tryz.isAgg0
 z0:=Tryz.sizeOf0
 v0:=Tryz.zeroValue0
 t4:=Tryz.underlying4
 a4:=Tryz.isAgg4
 z4:=Tryz.sizeOf4
 v4:=Tryz.zeroValue4
 t23:=Tryz.underlying138
 a23:=Tryz.isAgg138
 z23:=Tryz.sizeOf138
 v23:=Tryz.zeroValue138
 t26:=Tryz.underlying9
 a26:=Tryz.isAgg9
 z26:=Tryz.sizeOf9
 v26:=Tryz.zeroValue9
 t27:=Tryz.underlying142
 a27:=Tryz.isAgg142
 z27:=Tryz.sizeOf142
 v27:=Tryz.zeroValue142
 t28:=Tryz.underlying143
 a28:=Tryz.isAgg143
 z28:=Tryz.sizeOf143
 v28:=Tryz.zeroValue143
 t33:=Tryz.underlying54
 a33:=Tryz.isAgg54
 z33:=Tryz.sizeOf54
 v33:=Tryz.zeroValue54}
def sortedRen:Go.Shelf.Ren:=⟨fun |6=>91 |8=>156 |9=>157 |11=>220 |13=>222 |12=>221 |23=>249 |24=>276 |14=>267 |15=>268 |16=>269 |17=>270 |18=>271 |19=>272 |20=>273 |21=>274 |22=>275 |25=>291 |26=>292 |27=>293 |28=>294 |29=>295 |30=>296 |31=>314 |n=>n,fun |26=>9 |28=>143 |24=>97 |0=>0 |3=>3 |37=>197 |48=>62 |50=>96 |4=>4 |40=>275 |39=>274 |45=>191 |5=>5 |9=>9 |51=>290 |55=>294 |57=>305 |58=>209 |33=>54 |n=>n,fun |n=>n⟩
theorem sortedLay:Go.Proofs.SlLaysZ.n6 Tryz.prog sortedRen:={
 mixed:=by kernel_rfl
 f6:=⟨Tryz.f91.name,by decide,Tryz.func91.trans (congrArg some (by kernel_rfl))⟩
 f8:=⟨Tryz.f156.name,by decide,Tryz.func156.trans (congrArg some (by kernel_rfl))⟩
 f11:=⟨Tryz.f220.name,by decide,Tryz.func220.trans (congrArg some (by kernel_rfl))⟩
 t0:=Tryz.underlying0
 a0:=Tryz.isAgg0
 z0:=Tryz.sizeOf0
 v0:=Tryz.zeroValue0
 t24:=Tryz.underlying97
 a24:=Tryz.isAgg97
 z24:=Tryz.sizeOf97
 v24:=Tryz.zeroValue97
 t26:=Tryz.underlying9
 a26:=Tryz.isAgg9
 z26:=Tryz.sizeOf9
 v26:=Tryz.zeroValue9
 t28:=Tryz.underlying143
 a28:=Tryz.isAgg143
 z28:=Tryz.sizeOf143
 v28:=Tryz.zeroValue143
 i26:=by kernel_rfl}
def sortRen:Go.Shelf.Ren:=⟨fun |6=>157 |8=>222 |9=>221 |19=>249 |20=>276 |21=>267 |22=>268 |23=>269 |24=>270 |25=>271 |26=>272 |27=>273 |28=>274 |29=>275 |36=>291 |31=>292 |32=>293 |37=>294 |38=>295 |39=>296 |41=>314 |n=>n,fun |27=>97 |29=>9 |3=>3 |32=>197 |26=>97 |0=>0 |44=>62 |46=>96 |4=>4 |36=>275 |35=>274 |41=>191 |5=>5 |9=>9 |53=>290 |57=>294 |63=>305 |64=>209 |n=>n,fun |n=>n⟩
theorem sortLay:Go.Proofs.SlLaysM.n6 Tryz.prog sortRen:={
 mixed:=by kernel_rfl
 f6:=⟨Tryz.f157.name,by decide,Tryz.func157.trans (congrArg some (by kernel_rfl))⟩
 f8:=Tryz.func222.trans (congrArg some (by kernel_rfl))
 f9:=⟨Tryz.f221.name,by decide,Tryz.func221.trans (congrArg some (by kernel_rfl))⟩
 f19:=Tryz.func249.trans (congrArg some (by kernel_rfl))
 f20:=Tryz.func276.trans (congrArg some (by kernel_rfl))
 f21:=⟨Tryz.f267.name,by decide,Tryz.func267.trans (congrArg some (by kernel_rfl))⟩
 f22:=⟨Tryz.f268.name,by decide,Tryz.func268.trans (congrArg some (by kernel_rfl))⟩
 f23:=⟨Tryz.f269.name,by decide,Tryz.func269.trans (congrArg some (by kernel_rfl))⟩
 f24:=⟨Tryz.f270.name,by decide,Tryz.func270.trans (congrArg some (by kernel_rfl))⟩
 f25:=⟨Tryz.f271.name,by decide,Tryz.func271.trans (congrArg some (by kernel_rfl))⟩
 f26:=⟨Tryz.f272.name,by decide,Tryz.func272.trans (congrArg some (by kernel_rfl))⟩
 f27:=⟨Tryz.f273.name,by decide,Tryz.func273.trans (congrArg some (by kernel_rfl))⟩
 f28:=⟨Tryz.f274.name,by decide,Tryz.func274.trans (congrArg some (by kernel_rfl))⟩
 f29:=⟨Tryz.f275.name,by decide,Tryz.func275.trans (congrArg some (by kernel_rfl))⟩
 f31:=Tryz.func292.trans (congrArg some (by kernel_rfl))
 f32:=Tryz.func293.trans (congrArg some (by kernel_rfl))
 f36:=⟨Tryz.f291.name,by decide,Tryz.func291.trans (congrArg some (by kernel_rfl))⟩
 f37:=⟨Tryz.f294.name,by decide,Tryz.func294.trans (congrArg some (by kernel_rfl))⟩
 f38:=⟨Tryz.f295.name,by decide,Tryz.func295.trans (congrArg some (by kernel_rfl))⟩
 f39:=⟨Tryz.f296.name,by decide,Tryz.func296.trans (congrArg some (by kernel_rfl))⟩
 f41:=⟨Tryz.f314.name,by decide,Tryz.func314.trans (congrArg some (by kernel_rfl))⟩
 t0:=Tryz.underlying0
 a0:=Tryz.isAgg0
 z0:=Tryz.sizeOf0
 v0:=Tryz.zeroValue0
 t3:=Tryz.underlying3
 a3:=Tryz.isAgg3
 z3:=Tryz.sizeOf3
 v3:=Tryz.zeroValue3
 t4:=Tryz.underlying4
 a4:=Tryz.isAgg4
 z4:=Tryz.sizeOf4
 v4:=Tryz.zeroValue4
 t5:=Tryz.underlying5
 a5:=Tryz.isAgg5
 z5:=Tryz.sizeOf5
 v5:=Tryz.zeroValue5
 t9:=Tryz.underlying9
 a9:=Tryz.isAgg9
 z9:=Tryz.sizeOf9
 v9:=Tryz.zeroValue9
 t26:=Tryz.underlying97
 a26:=Tryz.isAgg97
 z26:=Tryz.sizeOf97
 v26:=Tryz.zeroValue97
 t27:=Tryz.underlying97
 a27:=Tryz.isAgg97
 z27:=Tryz.sizeOf97
 v27:=Tryz.zeroValue97
 t29:=Tryz.underlying9
 a29:=Tryz.isAgg9
 z29:=Tryz.sizeOf9
 v29:=Tryz.zeroValue9
 t32:=Tryz.underlying197
 a32:=Tryz.isAgg197
 z32:=Tryz.sizeOf197
 v32:=Tryz.zeroValue197
 t35:=Tryz.underlying274
 a35:=Tryz.isAgg274
 z35:=Tryz.sizeOf274
 v35:=Tryz.zeroValue274
 t36:=Tryz.underlying275
 a36:=Tryz.isAgg275
 z36:=Tryz.sizeOf275
 v36:=Tryz.zeroValue275
 t41:=Tryz.underlying191
 a41:=Tryz.isAgg191
 z41:=Tryz.sizeOf191
 v41:=Tryz.zeroValue191
 t44:=Tryz.underlying62
 a44:=Tryz.isAgg62
 z44:=Tryz.sizeOf62
 v44:=Tryz.zeroValue62
 t46:=Tryz.underlying96
 a46:=Tryz.isAgg96
 z46:=Tryz.sizeOf96
 v46:=Tryz.zeroValue96
 t53:=Tryz.underlying290
 a53:=Tryz.isAgg290
 z53:=Tryz.sizeOf290
 v53:=Tryz.zeroValue290
 t57:=Tryz.underlying294
 a57:=Tryz.isAgg294
 z57:=Tryz.sizeOf294
 v57:=Tryz.zeroValue294
 t63:=Tryz.underlying305
 a63:=Tryz.isAgg305
 z63:=Tryz.sizeOf305
 v63:=Tryz.zeroValue305
 t64:=Tryz.underlying209
 a64:=Tryz.isAgg209
 z64:=Tryz.sizeOf209
 v64:=Tryz.zeroValue209}
theorem sortsIn (m:Nat):AnyZ.SortsIn Tryz.prog sortedRen Fence.wide m:=
  ⟨fun blk off cap ss W hH hblk hsz=>callsIn_wide.2 (AnyM.slices_Sort_string sortLay blk off cap ss W hH hblk hsz),
   fun p cap W=>callsIn_wide.2 (AnyM.slices_Sort_string_none sortLay p cap W)⟩
theorem keysIn (mb:Option Nat) (W:World):CallsIn Fence.wide 5 Tryz.prog 92 #[.map mb] W fun e w'=>e=.returned (.func (.func 158) #[] #[.pointer (some ⟨W.heap.size,0,none⟩)])∧w'=W.alloc (.cells #[.map mb] 138):=
 AnyZ.keys_in keysLay Fence.wide 5 trivial rfl mb W
set_option maxHeartbeats 1000000 in
theorem sortedIn {H:Type} (b nn:Nat) (D0:DataW H) (R:Value→Option (DataW H×List MemPlace)) (w:World) (hown:w.ownsMap Tryz.prog 9 R b nn D0) (hmax:Maps.size D0≤maxLen) (hbytes:Maps.size D0*16≤140737488355328):
  CallsIn Fence.wide 5 Tryz.prog 91 #[.func (.func 158) #[] #[.pointer (some ⟨w.heap.size,0,none⟩)]] (w.alloc (.cells #[.map (some b)] 138)) fun e w'=>∃(v:Value) (ss:List (List UInt8)),e=.returned v∧ss.Perm (strKeys D0)∧
   w'.ownsRow (w.alloc (.cells #[.map (some b)] 138)).heap.size 9 1 v ss.length ((ss.mergeSort (fun x y=>decide (x≤y))).map encStr)∧(v=.slice none 0 0↔ss=[])∧Below (w.alloc (.cells #[.map (some b)] 138)).heap.size (w.alloc (.cells #[.map (some b)] 138)) w':=by
 have hbl:=hown.lt
 have hseq:SeqGives Fence.wide 2 Tryz.prog 158 #[.pointer (some ⟨w.heap.size,0,none⟩)] encStr (fun ss=>ss.Perm (strKeys D0)) (Maps.size D0) (w.alloc (.cells #[.map (some b)] 138)):=
  AnyZ.keys_gives (ρ:=keysRen) {keysLay with} Fence.wide _ trivial rfl (by omega) w.heap.size b nn D0 _ (by simp) (by simp) (by
   obtain⟨es,clock,hb,Ft,hs,hD⟩:=hown
   exact⟨es,clock,(Below.heap_alloc _ _ b hbl).trans hb,Ft,hs,hD⟩)
 exact AnyZ.sorted_in sortedLay Fence.wide 5 trivial trivial trivial trivial rfl (by omega) (sortsIn _) (enters_of Tryz.func157 (by kernel_rfl) rfl) 158 #[.pointer (some ⟨w.heap.size,0,none⟩)] trivial (enters_of Tryz.func158 (by kernel_rfl) rfl) _ _ hmax hbytes _ hseq
end Go.Q
namespace Go.Q
open Go.Proofs Go.RowKit Go.Shelf Go.Maps
attribute [local go_sem] Oper.semAt_some
set_option maxRecDepth 100000
set_option maxHeartbeats 4000000
def xC7:List Value:=[.int .i64 2,.int .i64 0,.bool false,.slice none 0 0,.slice none 0 0,.string ⟨#[120]⟩,.slice none 0 0]
def exXv:Value:=.agg #[.int .i64 2,.int .i64 0,.bool false,.slice none 0 0,.slice none 0 0,.string ⟨#[120]⟩,.slice none 0 0]
def exAv (b:Nat):Value:=.agg #[.int .i64 5,.int .i64 0,.bool false,.slice none 0 0,.slice none 0 0,.string ⟨#[]⟩,.slice (some ⟨b,0,none⟩) 2 2]
def kC (b:Nat) (h:Nat→Option (Array Value)):Prop:=h b=some (xC7 ++xC7).toArray
def KidsIn (n0:Nat) (W:World) (b:Nat):Prop:=b < n0∧∃T f,W.heap[b]?=some (.cells (xC7 ++xC7).toArray T f)
theorem KidsIn.below {n0 b:Nat} {A B:World} (h:KidsIn n0 A b) (k:Below n0 A B):KidsIn n0 B b:=by
 obtain⟨hb,T,f,ha⟩:=h
 exact⟨hb,T,f,by rw[k.block b hb];exact ha⟩
def xpV (b:Nat):Bool→Value
 |true=>exAv b
 |false=>exXv
def KpV (n0 n1:Nat) (A B:World):Prop:=Below n0 A B∧∀k cs T f,n1≤k→A.heap[k]?=some (.cells cs T f)→B.heap[k]?=some (.cells cs T f)
theorem KpV.trans {n0 n1:Nat} {A B C:World} (h:KpV n0 n1 A B) (k:KpV n0 n1 B C):KpV n0 n1 A C:=⟨h.1.trans k.1,fun i cs T f hi ha=>k.2 i cs T f hi (h.2 i cs T f hi ha)⟩
theorem room_none {F:Fence} (hd:F.depth=none) (k:Nat):F.room k:=fun d h=>by rw[hd] at h;cases h
theorem RoundIn.any {F:Fence} (hd:F.depth=none) {m m':Nat} {P:Program} {l:Nat} {f:FuncId} {tmps:Array Value} {assign body:Code} {w:World} {R:Ending→World→Prop}
  (h:RoundIn F m P l f tmps assign body w R):RoundIn F m' P l f tmps assign body w R:=⟨h.1,fun c cs _=>h.2 c cs (room_none hd _)⟩
theorem YieldAt.any {F:Fence} (hd:F.depth=none) {m:Nat} (m':Nat) {P:Program} {l:Nat} {args:Array Value} {W:World} {R:Ending→World→Prop} (h:YieldAt F m P l args W R):YieldAt F m' P l args W R:=by
 obtain⟨fn,tmps,assign,body,hy,hR⟩:=h
 exact⟨fn,tmps,assign,body,hy,RoundIn.any hd hR⟩
theorem box_cell {W:World} {B:Nat} {cs:Array Value} {t:TypeId} {f:Nat×Nat} (h:W.heap[B]?=some (.cells cs t f)) (i:Nat):W.cell? ⟨B,i,none⟩=cs[i]?:=by
 simp[World.cell?,h]
theorem each_x {F:Fence} (hd:F.depth=none) (hf:F.fn 155) (hro:F.round=none) {l n0 n1 N b:Nat} {J Jx:List Bool→World→Prop} (hJ:∀s A B,J s A→A.grownBy B none→J s B)
  (hY:∀m pre x W,J pre W→pre.length < N→YieldAt F m Tryz.prog l #[xpV b x] W fun e W'=>
   (e=.returned (.bool true)∧J (pre ++[x]) W'∧KpV n0 n1 W W')∨(e=.returned (.bool false)∧Jx (pre ++[x]) W'))
  (n:Nat) {pre:List Bool} {W:World} (h0:J pre W) (hN:pre.length < N) (hn:n0≤n1) (hW:n1≤W.heap.size):
  CallsIn F n Tryz.prog 155 #[exXv,.func (.yield l) #[] #[]] W fun e W'=>
   (e=.returned (.bool true)∧J (pre ++[false]) W'∧KpV n0 n1 W W')∨(e=.returned (.bool false)∧Jx (pre ++[false]) W'):=by
 have hdd:∀k:Nat,(F.depth.isSome=true→1≤k):=fun k h=>by rw[hd] at h;cases h
 unfold exXv
 obtain⟨fn,tmps,assign,body,hy,hR⟩:=hY (n - 1) pre false (W.alloc (.cells #[.int .i64 2,.int .i64 0,.bool false,.slice none 0 0,.slice none 0 0,.string ⟨#[120]⟩,.slice none 0 0] 27)) (hJ _ _ _ h0 (World.grownBy_alloc W _ none)) hN
 refine callsIn_of_wp Tryz.func155 rfl hf ?_ hro
 simp only[Tryz.ntmps155,List.size_toArray,List.length_cons,List.length_nil,ζ,Nat.reduceSub,Array.replicate_succ,Array.replicate_zero,List.push_toArray,List.append_toArray,List.nil_append,List.cons_append]
 dsimp only[xpV,exXv] at hy
 have hBx:∀W3,KpV n0 n1 (W.alloc (.cells #[.int .i64 2,.int .i64 0,.bool false,.slice none 0 0,.slice none 0 0,.string ⟨#[120]⟩,.slice none 0 0] 27)) W3→W3.cell? ⟨W.heap.size,6,none⟩=some (.slice none 0 0)∧KpV n0 n1 W W3:=fun W3 k=>by
  have ha:KpV n0 n1 W (W.alloc (.cells #[.int .i64 2,.int .i64 0,.bool false,.slice none 0 0,.slice none 0 0,.string ⟨#[120]⟩,.slice none 0 0] 27)):=⟨(Below.refl n0 W).alloc (by omega) _,fun k cs T f _ hk=>by rw[Below.heap_alloc _ _ _ (Array.getElem?_eq_some_iff.1 hk).1];exact hk⟩
  exact⟨box_cell (k.2 _ _ _ _ (by omega) (World.alloc_heap_new W _)) 6,ha.trans k⟩
 gi_wp2_with ((try refine⟨hdd _,?_⟩);refine hR.mono ?_;clear hR;rintro e W3 (⟨rfl,hJ3,hk3⟩ |⟨rfl,hx3⟩))
 ·obtain⟨hc3,hk4⟩:=hBx W3 hk3
  gi_wp2
  gi_loopw [14] (fun p wr=>p=.int .i64 0∧wr=W3) (fun _ _=>0)
  case atStart=>exact⟨rfl,rfl⟩
  case round=>
   obtain⟨rfl,rfl⟩:=hrel
   gi_wp2
   go_ret
   exact .inl ⟨rfl,hJ3,hk4⟩
 ·gi_wp2
  go_ret
  exact .inr ⟨rfl,hx3⟩
theorem each_a {F:Fence} (hd:F.depth=none) (hf:F.fn 155) (hro:F.round=none) {l n0 n1 b:Nat} {J Jx:List Bool→World→Prop} (hJ:∀s A B,J s A→A.grownBy B none→J s B)
  (hY:∀m pre x W,J pre W→pre.length < 3→YieldAt F m Tryz.prog l #[xpV b x] W fun e W'=>
   (e=.returned (.bool true)∧J (pre ++[x]) W'∧KpV n0 n1 W W')∨(e=.returned (.bool false)∧Jx (pre ++[x]) W'))
  (n:Nat) {W:World} (h0:J [] W) (hn:n0≤n1) (hW:n1≤W.heap.size) (hk:KidsIn n0 W b):
  CallsIn F n Tryz.prog 155 #[exAv b,.func (.yield l) #[] #[]] W fun e W'=>
   (e=.returned (.bool true)∧J [true,false,false] W')∨(e=.returned (.bool false)∧∃q,q <+: [true,false,false]∧Jx q W'):=by
 have hdd:∀k:Nat,(F.depth.isSome=true→1≤k):=fun k h=>by rw[hd] at h;cases h
 have hY0:=hY
 unfold exAv
 obtain⟨fn,tmps,assign,body,hy,hR⟩:=hY (n - 1) [] true (W.alloc (.cells #[.int .i64 5,.int .i64 0,.bool false,.slice none 0 0,.slice none 0 0,.string ⟨#[]⟩,.slice (some ⟨b,0,none⟩) 2 2] 27)) (hJ _ _ _ h0 (World.grownBy_alloc W _ none)) (by simp)
 refine callsIn_of_wp Tryz.func155 rfl hf ?_ hro
 simp only[Tryz.ntmps155,List.size_toArray,List.length_cons,List.length_nil,ζ,Nat.reduceSub,Array.replicate_succ,Array.replicate_zero,List.push_toArray,List.append_toArray,List.nil_append,List.cons_append]
 dsimp only[xpV,exAv] at hy
 have hBx:∀W3,KpV n0 n1 (W.alloc (.cells #[.int .i64 5,.int .i64 0,.bool false,.slice none 0 0,.slice none 0 0,.string ⟨#[]⟩,.slice (some ⟨b,0,none⟩) 2 2] 27)) W3→W3.cell? ⟨W.heap.size,6,none⟩=some (.slice (some ⟨b,0,none⟩) 2 2)∧KidsIn n0 W3 b∧n1≤W3.heap.size:=fun W3 k=>by
  have ha:Below n0 W (W.alloc (.cells #[.int .i64 5,.int .i64 0,.bool false,.slice none 0 0,.slice none 0 0,.string ⟨#[]⟩,.slice (some ⟨b,0,none⟩) 2 2] 27)):=(Below.refl n0 W).alloc (by omega) _
  have hb:=ha.trans k.1
  exact⟨box_cell (k.2 _ _ _ _ (by omega) (World.alloc_heap_new W _)) 6,hk.below hb,χ hW hb.size⟩
 gi_wp2_with ((try refine⟨hdd _,?_⟩);refine hR.mono ?_;clear hR;rintro e W3 (⟨rfl,hJ3,hk3⟩ |⟨rfl,hx3⟩))
 ·obtain⟨hc3,hd3,hs3⟩:=hBx W3 hk3
  clear hBx hk3
  gi_wp2
  gi_loopw [14] (fun p wr=>∃i:Nat,i≤2∧p=.int .i64 i∧J (true :: List.replicate i false) wr∧KidsIn n0 wr b∧n1≤wr.heap.size) (fun p _=>2 - (RowKit.intOf p).toNat)
  case atStart=>exact⟨0,by decide,rfl,hJ3,hd3,hs3⟩
  case round=>
   obtain⟨i,hi,rfl,hJi,hki,hsi⟩:=hrel
   by_cases h2:i < 2
   ·have hc:∀(j:Nat) v,xC7[j]?=some v→wr.cell? ⟨b,i*7+j,none⟩=some v:=fun j v hv=>by
     obtain⟨_,T,f,hb⟩:=hki
     have hj:j < 7:=(List.getElem?_eq_some_iff.1 hv).1
     rw[box_cell hb,List.getElem?_toArray]
     rcases(show i=0∨i=1 by omega) with rfl |rfl
     ·rw[List.getElem?_append_left (by show 0*7+j < 7;omega)];simpa using hv
     ·rw[List.getElem?_append_right (by show 7≤1*7+j;omega)]
      show xC7[1*7+j - 7]?=_
      rw[show 1*7+j - 7=j by omega];exact hv
    have c0:wr.cell? ⟨b,i*7,none⟩=some (.int .i64 2):=hc 0 _ rfl
    have c1:wr.cell? ⟨b,i*7+1,none⟩=some (.int .i64 0):=hc 1 _ rfl
    have c2:wr.cell? ⟨b,i*7+2,none⟩=some (.bool false):=hc 2 _ rfl
    have c3:wr.cell? ⟨b,i*7+3,none⟩=some (.slice none 0 0):=hc 3 _ rfl
    have c4:wr.cell? ⟨b,i*7+4,none⟩=some (.slice none 0 0):=hc 4 _ rfl
    have c5:wr.cell? ⟨b,i*7+5,none⟩=some (.string ⟨#[120]⟩):=hc 5 _ rfl
    have c6:wr.cell? ⟨b,i*7+6,none⟩=some (.slice none 0 0):=hc 6 _ rfl
    have hx:=each_x hd hf hro hJ hY0 (n - 1) (hJ _ _ _ hJi (World.grownBy_alloc wr (.cells #[.int .i64 2,.int .i64 0,.bool false,.slice none 0 0,.slice none 0 0,.string ⟨#[120]⟩,.slice none 0 0] 27) none)) (by simp;omega) hn (χ hsi (World.grownBy_alloc wr (.cells #[.int .i64 2,.int .i64 0,.bool false,.slice none 0 0,.slice none 0 0,.string ⟨#[120]⟩,.slice none 0 0] 27) none).size)
    have hb0:Below n0 wr (wr.alloc (.cells #[.int .i64 2,.int .i64 0,.bool false,.slice none 0 0,.slice none 0 0,.string ⟨#[120]⟩,.slice none 0 0] 27)):=(Below.refl n0 wr).alloc (by omega) _
    have hki':∀W4,KpV n0 n1 (wr.alloc (.cells #[.int .i64 2,.int .i64 0,.bool false,.slice none 0 0,.slice none 0 0,.string ⟨#[120]⟩,.slice none 0 0] 27)) W4→KidsIn n0 W4 b∧n1≤W4.heap.size:=fun W4 k=>⟨hki.below (hb0.trans k.1),χ hsi (hb0.trans k.1).size⟩
    unfold exXv at hx
    gi_wp2
    refine hx.mono ?_
    rintro e W4 (⟨rfl,hJ4,hk4⟩ |⟨rfl,hx4⟩)
    ·gi_wp2
     go_roundw
     case rel=>exact⟨i+1,by omega,by simp,by rw[List.replicate_succ'];exact hJ4,(hki' W4 hk4).1,(hki' W4 hk4).2⟩
     case measure=>
      simp[RowKit.intOf];omega
    ·gi_wp2
     refine bodyPost_ret (results_tmp rfl _ _ _) rfl ?_
     exact .inr ⟨rfl,_,by rcases(show i=0∨i=1 by omega) with rfl |rfl<;>decide,hx4⟩
   ·obtain rfl:i=2:=by omega
    gi_wp2
    go_ret
    exact .inl ⟨rfl,hJi⟩
 ·gi_wp2
  go_ret
  exact .inr ⟨rfl,[true],⟨[false,false],rfl⟩,hx3⟩
theorem nodes_in {F:Fence} {n:Nat} (hf:F.fn 90) (hro:F.round=none) {b:Nat} {w:World}:
  CallsIn F n Tryz.prog 90 #[exAv b] w fun e w'=>e=.returned (.func (.func 154) #[] #[.pointer (some ⟨w.heap.size,0,none⟩)])∧w'=w.alloc (.cells #[.int .i64 5,.int .i64 0,.bool false,.slice none 0 0,.slice none 0 0,.string ⟨#[]⟩,.slice (some ⟨b,0,none⟩) 2 2] 27):=by
 unfold exAv
 refine callsIn_of_wp Tryz.func90 rfl hf ?_ hro
 simp only[Tryz.ntmps90,List.size_toArray,List.length_cons,List.length_nil,ζ,Nat.reduceSub,Array.replicate_succ,Array.replicate_zero,List.push_toArray,List.append_toArray,List.nil_append,List.cons_append]
 gi_wp2
 go_ret
 exact⟨rfl,rfl⟩
theorem nodes_stops {F:Fence} (hd:F.depth=none) {n:Nat} (hf:F.fn 155) (hf2:F.fn 154) (hro:F.round=none) {Bt n0 b:Nat} {w:World} (hk:KidsIn n0 w b) (hn:n0≤w.heap.size)
  {f:Nat×Nat} (hB:w.heap[Bt]?=some (.cells #[.int .i64 5,.int .i64 0,.bool false,.slice none 0 0,.slice none 0 0,.string ⟨#[]⟩,.slice (some ⟨b,0,none⟩) 2 2] 27 f)):
  SeqStopsK F n Tryz.prog 154 #[.pointer (some ⟨Bt,0,none⟩)] (fun x:Bool=>#[xpV b x]) (KpV n0 w.heap.size) (fun ys=>ys=[true,false,false]) (fun pre=>pre <+: [true,false,false]) 3 w:=by
 intro l J Jx W hW hJ hJx hY h0
 have hdd:∀k:Nat,(F.depth.isSome=true→1≤k):=fun k h=>by rw[hd] at h;cases h
 have hB':W.heap[Bt]?=_:=(hW.block Bt (Array.getElem?_eq_some_iff.1 hB).1).trans hB
 have hp:=each_a hd hf hro (l:=l) (n0:=n0) (n1:=w.heap.size) (b:=b) (J:=J) (Jx:=Jx) (fun s A B h g=>hJ s A B none h g (fun r e=>by cases e)) (fun m pre x W1 hj hl=>YieldAt.any hd m (hY pre x W1 hj hl)) (n - 1) h0 hn hW.size (hk.below (hW.mono hn))
 unfold exAv at hp
 have c0:=box_cell hB' 0
 have c1:=box_cell hB' 1
 have c2:=box_cell hB' 2
 have c3:=box_cell hB' 3
 have c4:=box_cell hB' 4
 have c5:=box_cell hB' 5
 have c6:=box_cell hB' 6
 simp only[List.getElem?_toArray,List.getElem?_cons_zero,List.getElem?_cons_succ] at c0 c1 c2 c3 c4 c5 c6
 refine callsIn_of_wp Tryz.func154 rfl hf2 ?_ hro
 simp only[Tryz.ntmps154,List.size_toArray,List.length_cons,List.length_nil,ζ,Nat.reduceSub,Array.replicate_succ,Array.replicate_zero,List.push_toArray,List.append_toArray,List.nil_append,List.cons_append]
 gi_wp2_with ((try refine⟨hdd _,?_⟩);gi_at_call 155;refine hp.mono ?_;clear hp;rintro e W1 (⟨rfl,hJ1⟩ |⟨rfl,q,hq,hx⟩))
 ·go_end0
  exact⟨⟨_,rfl⟩,.inl ⟨_,rfl,hJ1⟩⟩
 ·go_end0
  exact⟨⟨_,rfl⟩,.inr ⟨q,hq,hx⟩⟩
def exC (b:Nat):Bool→Array Value
 |true=>#[.int .i64 5,.int .i64 0,.bool false,.slice none 0 0,.slice none 0 0,.string ⟨#[]⟩,.slice (some ⟨b,0,none⟩) 2 2]
 |false=>#[.int .i64 2,.int .i64 0,.bool false,.slice none 0 0,.slice none 0 0,.string ⟨#[120]⟩,.slice none 0 0]
def nmD {H:Type} (xs:List Bool):DataW H:=xs.foldl (fun D x=>bif x then D else D.put (.string [120]) (.lit (.bool true))) (.map [])
theorem nmD_snoc {H:Type} (pre:List Bool) (x:Bool):nmD (H:=H) (pre ++[x])=bif x then nmD pre else (nmD pre).put (.string [120]) (.lit (.bool true)):=by simp[nmD]
theorem vars_in {b:Nat} {w:World} (hk:KidsIn w.heap.size w b)
  (kV:∀m W,Below w.heap.size w W→CallsIn Fence.wide m Tryz.prog 52 #[exAv b] W fun e W'=>e=.returned (.bool true)∧Below W.heap.size W W'):
  CallsIn Fence.wide 9 Tryz.prog 53 #[exAv b] w fun e w'=>∃v,e=.returned (.tuple #[v,.int .i64 0])∧w'.ownsRow w.heap.size 9 1 v 1 [.string ⟨#[120]⟩]∧Below w.heap.size w w':=by
 have hro:Fence.wide.round=none:=rfl
 have hmm:=@run_makeMap Tryz.prog
 unfold exAv at kV ⊢
 refine callsIn_of_wp_marks Tryz.func53 rfl trivial ?_ hro
 simp only[Tryz.ntmps53,List.size_toArray,List.length_cons,List.length_nil,ζ,Nat.reduceSub,Array.replicate_succ,Array.replicate_zero,List.push_toArray,List.append_toArray,List.nil_append,List.cons_append]
 have hk1:KidsIn w.heap.size (w.alloc (.cells #[.int .i64 5,.int .i64 0,.bool false,.slice none 0 0,.slice none 0 0,.string ⟨#[]⟩,.slice (some ⟨b,0,none⟩) 2 2] 27)) b:=hk.below ((Below.refl _ w).alloc (η _) _)
 have g1:Fence.wide.fn 52:=trivial
 have g2:Fence.wide.fn 90:=trivial
 have hcel:∀w',Below (w.heap.size+1) (w.alloc (.cells #[.int .i64 5,.int .i64 0,.bool false,.slice none 0 0,.slice none 0 0,.string ⟨#[]⟩,.slice (some ⟨b,0,none⟩) 2 2] 27)) w'→∀i,w'.cell? ⟨w.heap.size,i,none⟩=(#[.int .i64 5,.int .i64 0,.bool false,.slice none 0 0,.slice none 0 0,.string ⟨#[]⟩,.slice (some ⟨b,0,none⟩) 2 2]:Array Value)[i]?:=fun w' hb i=>
  box_cell ((hb.block _ (by omega)).trans (World.alloc_heap_new w _)) i
 gi_wp2
 refine(kV _ _ ((Below.refl _ w).alloc (η _) _)).mono ?_
 rintro e w' ⟨rfl,hbV⟩
 simp only[World.size_alloc] at hbV
 have hs':w.heap.size+1≤w'.heap.size:=by have:=hbV.size;simpa using this
 have hbA:=(hbV.alloc hs' (.map #[] 0)).alloc (by simp;omega) (.cells #[.map (some w'.heap.size)] 138)
 have hc:=hcel _ hbA
 have c0:=hc 0
 have c1:=hc 1
 have c2:=hc 2
 have c3:=hc 3
 have c4:=hc 4
 have c5:=hc 5
 have c6:=hc 6
 clear hc
 simp only[List.getElem?_toArray,List.getElem?_cons_zero,List.getElem?_cons_succ] at c0 c1 c2 c3 c4 c5 c6
 gi_wp2_with (gi_at_call 90;refine(nodes_in (n:=8) g2 hro (b:=b) (w:=(w'.alloc (.map #[] 0)).alloc (.cells #[.map (some w'.heap.size)] 138))).mono ?_;rintro e w2 ⟨rfl,rfl⟩)
 have hnb:KidsIn w.heap.size ((w'.alloc (.map #[] 0)).alloc (.cells #[.map (some w'.heap.size)] 138)) b:=hk1.below (hbA.mono (by omega))
 obtain⟨W0,hW0⟩:∃W0,((w'.alloc (.map #[] 0)).alloc (.cells #[.map (some w'.heap.size)] 138)).alloc (.cells #[.int .i64 5,.int .i64 0,.bool false,.slice none 0 0,.slice none 0 0,.string ⟨#[]⟩,.slice (some ⟨b,0,none⟩) 2 2] 27)=W0:=⟨_,rfl⟩
 have hsz:W0.heap.size=w'.heap.size+3:=by rw[←hW0];simp
 have hkW:KidsIn w.heap.size W0 b:=by rw[←hW0];exact hnb.below ((Below.refl _ _).alloc (by simp;omega) _)
 have hbx:W0.heap[w'.heap.size+1+1]?=some (.cells #[.int .i64 5,.int .i64 0,.bool false,.slice none 0 0,.slice none 0 0,.string ⟨#[]⟩,.slice (some ⟨b,0,none⟩) 2 2] 27 (0,0)):=by
  have h:=World.alloc_heap_new ((w'.alloc (.map #[] 0)).alloc (.cells #[.map (some w'.heap.size)] 138)) (.cells #[.int .i64 5,.int .i64 0,.bool false,.slice none 0 0,.slice none 0 0,.string ⟨#[]⟩,.slice (some ⟨b,0,none⟩) 2 2] 27)
  rw[hW0] at h
  simpa using h
 have bM:Boxed W0 (w'.heap.size+1) 138 (.map (some w'.heap.size)):=by
  rw[←hW0]
  exact(by simpa using Boxed.new (w'.alloc (.map #[] 0)) 138 (.map (some w'.heap.size)):Boxed _ (w'.heap.size+1) _ _).alloc _
 have hm0:W0.ownsMap Tryz.prog 9 (plainElem (H:=Unit) Tryz.prog 4) w'.heap.size 0 (.map []):=by
  rw[←hW0]
  exact((World.ownsMap_made w' Tryz.prog 9 (plainElem (H:=Unit) Tryz.prog 4)).alloc _).alloc _
 have hB0:Below w.heap.size w W0:=by
  rw[←hW0]
  exact(((Below.refl _ w).alloc (η _) _).trans (hbA.mono (by omega))).alloc (by simp;omega) _
 rw[hW0]
 clear hW0 c0 c1 c2 c3 c4 c5 c6 hbA hcel hnb hbV
 refine wpIn_rangeFunc_ownH hro (by decide) (gf:=154) (lb:=#[.pointer (some ⟨w'.heap.size+1+1,0,none⟩)]) rfl trivial (enters_of Tryz.func154 (by kernel_rfl) rfl)
  (nodes_stops (n0:=w.heap.size) rfl trivial trivial hro hkW hB0.size hbx) KpV.trans
  (fun W l o o' hl h h1 h2=>⟨belowK_b hB0.size W l o o' hl h h1 h2,fun k cs T f _ ha=>by
   have hne:k≠l:=fun e=>by rw[e,h] at ha;cases ha;cases h1
   exact((grownBy_putObj' W l o').block k (Array.getElem?_eq_some_iff.1 ha).1 (fun e=>hne (Option.some.inj e))).trans ha⟩)
  (Below.refl _ _) (fun _=>rfl)
  (fun pre W=>(Boxed W (w'.heap.size+1) 138 (.map (some w'.heap.size))∧W.ownsMap Tryz.prog 9 (plainElem (H:=Unit) Tryz.prog 4) w'.heap.size (pre.count false) (nmD pre))∧Below w.heap.size w W∧W0.heap.size≤W.heap.size)
  (fun _ _ _=>False)
  (OwnFrom.and (OwnFrom.and (Own.from (boxed_own _ _ _) _) (fun s A B row hs hg hr=>hs.kept hg (fun e=>by have:=(hr _ e.symm).1;omega))) (OwnFrom.and (ownFrom_below (η _) hB0.size) (fun s A B row hs hg hr=>χ hs hg.size)))
  (fun _ _ _ _ _ hs _ _=>hs)
  ⟨⟨bM,hm0⟩,hB0,η _⟩
  (fun x a' W=>∃Bx,W0.heap.size≤Bx∧W.heap[Bx]?=some (.cells (exC b x) 27 (0,0))∧a'={tmps:=#[.agg #[.int .i64 5,.int .i64 0,.bool false,.slice none 0 0,.slice none 0 0,.string ⟨#[]⟩,.slice (some ⟨b,0,none⟩) 2 2],.pointer (some ⟨w.heap.size,0,none⟩),.slice none 0 0,.int .i64 0,.pointer (some ⟨w'.heap.size+1,0,none⟩),.pointer (some ⟨Bx,0,none⟩),.agg #[.int .i64 5,.int .i64 0,.bool false,.slice none 0 0,.slice none 0 0,.string ⟨#[]⟩,.slice (some ⟨b,0,none⟩) 2 2],.bool true,.bool false,.map (some w'.heap.size),.agg #[.int .i64 5,.int .i64 0,.bool false,.slice none 0 0,.slice none 0 0,.string ⟨#[]⟩,.slice (some ⟨b,0,none⟩) 2 2],.func (.func 154) #[] #[.pointer (some ⟨w'.heap.size+1+1,0,none⟩)],xpV b x,undef,undef,undef,undef,undef,undef,undef,undef,undef],defers:=[]})
  (fun x a' _ X Y row hs hg hr=>by
   obtain⟨Bx,h1,h2,h3⟩:=hs
   refine⟨Bx,h1,(hg.block Bx (Array.getElem?_eq_some_iff.1 h2).1 (fun e=>?_)).trans h2,h3⟩
   obtain⟨_,o,ho,hc⟩:=hr _ e.symm
   rw[h2] at ho;cases ho;cases hc)
  ?assign ?body ?done ?stop
 case assign=>
  rintro l pre x W K ⟨⟨bM1,hm1⟩,hB1,hS1⟩ hK
  have hW:w.heap.size≤W.heap.size:=hB1.size
  have hN:∀o,KpV w.heap.size W0.heap.size W (W.alloc o):=fun o=>⟨(Below.refl _ W).alloc hW o,fun k cs T f _ ha=>by rw[Below.heap_alloc _ _ _ (Array.getElem?_eq_some_iff.1 ha).1];exact ha⟩
  cases x
  all_goals
   dsimp only[xpV,exXv,exAv]
   gi_wp2
   exact hK _ _ ((KeepsOthers.alloc _ _).from _) (hN _) ⟨⟨bM1.alloc _,hm1.alloc _⟩,hB1.alloc hW _,by simp;omega⟩ ⟨W.heap.size,hS1,World.alloc_heap_new W _,rfl⟩
 case body=>
  rintro l pre x a' W hl ⟨r,hr⟩ ⟨⟨bM1,hm1⟩,hB1,hS1⟩ ⟨Bx,hBx,hbC,rfl⟩ hlt
  have hW:w.heap.size≤W.heap.size:=hB1.size
  have cM:=bM1.cell
  have c0:=box_cell hbC 0
  have c5:=box_cell hbC 5
  have hkey:keyOf Tryz.prog 9 (.string ⟨#[120]⟩)=some (.string [120]):=WideMaps.keyOf_string_mk (P:=Tryz.prog) Tryz.underlying9 (by decide)
  have hcnt:pre.count false≤pre.length:=List.count_le_length
  cases x
  ·dsimp only[exC] at c0 c5
   simp only[List.getElem?_toArray,List.getElem?_cons_zero,List.getElem?_cons_succ] at c0 c5
   gi_wp2_with (gi_at_mapUpdate;refine wpListIn_mapUpdate_own _ rfl _ _ _ 138 rfl 9 4 (Maps.string_keyed Tryz.underlying9) Tryz.underlying138 _ w'.heap.size (pre.count false) _ rfl hm1 (by unfold maxLen;omega) _ _ _ rfl rfl hkey _ [] (plainElem_bool Tryz.underlying4 true) ?_;intro w1 hown1 hgrow1)
   obtain⟨es,ck,hh,_⟩:=hm1
   have hne:∀k,W0.heap.size≤k→some k≠some w'.heap.size:=fun k hk e=>by cases e;omega
   exact⟨KeepsFrom.of_grownBy hgrow1 (fun j e=>by cases e;omega),⟨(Below.refl _ W).grown hgrow1 hW (fun k e=>by cases e;omega),fun k cs T f hk ha=>(hgrow1.block k (Array.getElem?_eq_some_iff.1 ha).1 (hne k hk)).trans ha⟩,
    ⟨bM1.kept hgrow1 (fun e=>by have:=Option.some.inj e;omega),by rw[nmD_snoc,List.count_append];exact hown1⟩,hB1.grown hgrow1 hW (fun k e=>by cases e;omega),χ hS1 hgrow1.size⟩
  ·dsimp only[exC] at c0 c5
   simp only[List.getElem?_toArray,List.getElem?_cons_zero,List.getElem?_cons_succ] at c0 c5
   gi_wp2
   exact⟨KeepsFrom.refl _ _,⟨Below.refl _ _,fun _ _ _ _ _ h=>h⟩,⟨bM1,by rw[nmD_snoc,List.count_append];exact hm1⟩,hB1,hS1⟩
 case done=>
  rintro D ys W hD rfl ⟨⟨bM1,hm1⟩,hB1,hS1⟩ hK
  have cM:=bM1.cell
  have g3:Fence.wide.fn 92:=trivial
  have g4:Fence.wide.fn 91:=trivial
  have hown:W.ownsMap Tryz.prog 9 (plainElem (H:=Unit) Tryz.prog 4) w'.heap.size 2 (.map [(.string [120],.lit (.bool true))]):=hm1
  gi_wp2_with (first
   |(gi_at_call 92;refine(callsIn_wide.2 (callsIn_wide.1 (keysIn _ _))).mono ?_;rintro e w3 ⟨rfl,rfl⟩)
   |(gi_at_call 91;refine(callsIn_wide.2 (callsIn_wide.1 (sortedIn w'.heap.size 2 _ _ W hown (by decide) (by decide)))).mono ?_;rintro e w3 ⟨v,ss,rfl,hS,hrow,hnil,hb3⟩))
  have e1:ss=[[120]]:=List.perm_singleton.1 hS
  subst e1
  have hD3:D < W.heap.size:=(Array.getElem?_eq_some_iff.1 hK).1
  have hK3:w3.heap[D]?=some (.deferred (some [])):=(hb3.block D (by simp;omega)).trans ((Below.heap_alloc W _ D hD3).trans hK)
  have hB3:Below w.heap.size w w3:=hB1.trans (((Below.refl _ W).alloc hB1.size _).trans (hb3.mono (by have:=hB1.size;simp;omega)))
  refine⟨by simp,.inl ⟨_,_,rfl,run_takeDeferred hK3,?_⟩⟩
  refine⟨_,results_tmp2 rfl _ _ _,v,rfl,?_,hB3.trans (belowK_b (w:=w) (η _) w3 D _ _ (by have:=hB0.size;omega) hK3 rfl rfl)⟩
  rw[List.mergeSort_singleton] at hrow
  have hr:=ownsRow_putObj hrow (.deferred none) hK3 rfl
  exact ownsRow_base_a hr (by have:=hB1.size;simp;omega)
 case stop=>
  rintro D c pre W _ _ h _
  exact h.elim
end Go.Q
namespace Go.Q
open Go.Proofs Go.RowKit Go.Shelf
attribute [local go_sem] Oper.semAt_some
set_option maxRecDepth 100000
set_option maxHeartbeats 4000000
def ivC (l:List Value):Prop:=∃(b1:Bool) (a1:Option Addr) (m1 k1:Nat) (a2:Option Addr) (m2 k2:Nat) (b2:Bool) (a3:Option Addr) (m3 k3:Nat) (a4:Option Addr) (m4 k4:Nat) (e1 e2:Bool),l=[.bool b1,.slice a1 m1 k1,.slice a2 m2 k2,.bool b2,.slice a3 m3 k3,.slice a4 m4 k4,.bool e1,.bool e2]
end Go.Q
