/-
  A region whose impure operations are not all ordered by its edges: it is walked as a tree, a branch for each of them that may come next. Conditions: the check 'regionOkT' holds.
  Boxes are numbered anew: some of them are kept, in a given order. A loop whose rounds may number them anew. Conditions: none beyond each rule's own.
  A region that draws its order, walked through every order that it may draw: a tree with a branch for each operation that may come next. Conditions: the check 'chkY' holds.
  Whole bodies walked by one call of the simplifier: the code is turned into what it must reach, operation by operation; calls, loops and loads through pointers stand still, what follows them unseen. Conditions: none beyond each rule's own.
-/
import Derived.Test.YtclajmpjcojhaaaGreatDoorKc5aef0PkC
set_option linter.unusedVariables false
set_option linter.unusedSimpArgs false
namespace Go.Q
open Go.RowKit (Below)
inductive IT where
  |done
  |seg (l:List PL) (t:IT)
  |alt (i:Nat) (t u:IT)
  |no
def withN (K:Act→World→Prop) (Q:Exit→Act→World→Prop):Exit→Act→World→Prop
  |.normal=>K
  |e=>Q e
section
variable (P:Program) (ops:Array Oper) (Q:Exit→Act→World→Prop)
def RT:IT→Act→World→Prop
  |.done,a,w=>Q .normal a w
  |.seg l t,a,w=>RWc P ops (withN (RT t) Q) (order l) a w
  |.alt i t u,a,w=>RWc P ops (withN (RT t) Q) [i] a w∧RT u a w
  |.no,_,_=>True
end
def heads:IT→List Nat
  |.alt i _ u=>i :: heads u
  |_=>[]
def masked (m:List Nat) (y x:Nat):Bool:=(m.getD y 0).testBit x
def rdOk (ops:Array Oper) (m:List Nat) (x:Nat) (rem:List Nat):Bool:=match ops[x]? with
  |some ox=>cls ox.op == 0 && rem.all fun y=>okPair ops m x y
  |none=>false
def chkL (ops:Array Oper) (m:List Nat):List Nat→List Nat→Option (List Nat)
  |[],rem=>some rem
  |x :: l,rem=>bif rem.contains x && rdOk ops m x (rem.erase x) then chkL ops m l (rem.erase x) else none
def chkB (ops:Array Oper) (m:List Nat):IT→Bool→List Nat→Bool
  |.done,top,rem=>top && rem.isEmpty
  | .seg l t,top,rem=>top && match chkL ops m (order l) rem with
    |some rem'=>chkB ops m t true rem'
    |none=>false
  | .alt i t u,top,rem=>(rem.contains i && (match ops[i]? with |some o=>cls o.op != 0 |none=>false) && (rem.erase i).all (fun y=>!direct ops i y) && chkB ops m t true (rem.erase i) && chkB ops m u false rem) &&
    (!top || rem.all fun y=>(heads (.alt i t u)).contains y || rem.any fun j=>masked m y j)
  |.no,top,_=>!top
def chk (ops:Array Oper) (m:List Nat) (t:IT) (rem:List Nat):Bool:=chkB ops m t true rem
def chkA (ops:Array Oper) (m:List Nat) (t:IT) (rem:List Nat):Bool:=chkB ops m t false rem
theorem chk_seg {ops:Array Oper} {m:List Nat} {l:List PL} {t:IT} {rem:List Nat}:chk ops m (.seg l t) rem=(match chkL ops m (order l) rem with |some rem'=>chk ops m t rem' |none=>false):=by simp[chk,chkB]
theorem chk_alt {ops:Array Oper} {m:List Nat} {i:Nat} {t u:IT} {rem:List Nat}:chk ops m (.alt i t u) rem=(chkA ops m (.alt i t u) rem && rem.all fun y=>(heads (.alt i t u)).contains y || rem.any fun j=>masked m y j):=by simp[chk,chkA,chkB]
theorem chkA_alt {ops:Array Oper} {m:List Nat} {i:Nat} {t u:IT} {rem:List Nat}:chkA ops m (.alt i t u) rem=(rem.contains i && (match ops[i]? with |some o=>cls o.op != 0 |none=>false) && (rem.erase i).all (fun y=>!direct ops i y) && chk ops m t (rem.erase i) && chkA ops m u rem):=by simp[chk,chkA,chkB]
theorem chk_no {ops:Array Oper} {m:List Nat} {rem:List Nat}:chk ops m .no rem=false:=by simp[chk,chkB]
theorem chk_done {ops:Array Oper} {m:List Nat} {rem:List Nat}:chk ops m .done rem=rem.isEmpty:=by simp[chk,chkB]
def regionOkT (ops:Array Oper) (t:IT):Bool:=edgesOk ops && Region.noSelect ops && (List.range ops.size).all (fun x=>!direct ops x x) && chk ops (masksL ops ops.size) t (List.range ops.size)
section
variable {P:Program} {ops:Array Oper} {Q Q':Exit→Act→World→Prop}
theorem wp_Q {o:Oper} {a:Act} {w:World} {K:Act→World→Prop} (hp:∀c a w,Q (.panic c) a w→Q' (.panic c) a w) (ho:∀a w,Q .outgrown a w→Q' .outgrown a w) (h:o.wp P a w K Q):o.wp P a w K Q':=by
  unfold Oper.wp at*
  generalize(execOp a.eval o).run P w=r at*
  cases r with
  | ok n w'=>
    cases n<;>simp only[Oper.upon] at h ⊢
    case value u=>exact h
    case skip=>exact h
    case defer d=>exact h
    case enter f args=>
      refine Calls.mono h fun e w'' he=>?_
      cases e with
      |returned u=>exact he
      |panicked c=>exact hp _ _ _ he
      |outgrown=>obtain⟨a₀,w₀,hq⟩:=he;exact⟨a₀,w₀,ho _ _ hq⟩
    case row row args=>exact h
  | halt x w'=>
    cases x<;>simp only[Oper.upon] at h ⊢
    case panic u=>exact hp _ _ _ h
theorem RWc_append {c d:List Nat}:∀{a:Act} {w:World},RWc P ops (withN (fun a w=>RWc P ops Q d a w) Q') c a w→(∀c a w,Q' (.panic c) a w→Q (.panic c) a w)→(∀a w,Q' .outgrown a w→Q .outgrown a w)→RWc P ops Q (c ++d) a w:=by
  induction c with
  |nil=>intro a w h _ _;exact h
  | cons i c ih=>
    intro a w h hp ho
    simp only[List.cons_append,RWc] at h ⊢
    split at h
    · exact h.elim
    · rename_i o _
      split at h
      · rename_i hw
        rw[if_pos hw]
        split at h
        · rename_i hc
          rw[if_pos hc]
          obtain⟨v,hv,h⟩:=h
          exact⟨v,hv,ih h hp ho⟩
        · rename_i hc
          rw[if_neg hc]
          exact wp_Q (Q:=withN (fun a w=>RWc P ops Q d a w) Q') hp ho (wp_mono' (fun a' w' k=>⟨k.1,ih k.2 hp ho⟩) h)
      · rename_i hw
        rw[if_neg hw]
        exact ih h hp ho
theorem withN_panic {K:Act→World→Prop} (hQ:∀c a d v w,Q (.panic c) (Act.put a d v) w→Q (.panic c) a w):∀c a d v w,withN K Q (.panic c) (Act.put a d v) w→withN K Q (.panic c) a w:=hQ
structure GoodT (ops:Array Oper) (listed:Array Bool) (R rem:List Nat):Prop where
  size:listed.size=ops.size
  mem:∀j,j < ops.size→(listed.getD j false=false↔j∈R ++rem)
  lt:∀j∈R ++rem,j < ops.size
  nodup:(R ++rem).Nodup
  cls0:∀x∈R,∃o,ops[x]?=some o∧cls o.op=0
  pairs:R.Pairwise fun x y=>okPair ops (masksL ops ops.size) x y=true
  ahead:∀x∈R,∀y∈rem,okPair ops (masksL ops ops.size) x y=true
  closed:∀j,listed.getD j false=true→∀x,direct ops j x=true→listed.getD x false=true
  edges:∀y x,direct ops y x=true→x < ops.size
  irr:∀x,x < ops.size→direct ops x x=false
theorem mem_erase_app {R rem:List Nat} {x:Nat} (hx:x∈rem) (j:Nat):j∈(R ++[x]) ++rem.erase x↔j∈R ++rem:=by
  simp only[List.mem_append,List.mem_singleton]
  constructor
  · rintro((h |rfl) |h)
    · exact .inl h
    · exact .inr hx
    · exact .inr (List.mem_of_mem_erase h)
  · rintro(h |h)
    · exact .inl (.inl h)
    · by_cases e:j=x
      · exact .inl (.inr e)
      · exact .inr ((List.mem_erase_of_ne e).2 h)
theorem GoodT.take {listed:Array Bool} {R rem:List Nat} (g:GoodT ops listed R rem) {x:Nat} (hx:x∈rem) (hr:rdOk ops (masksL ops ops.size) x (rem.erase x)=true):GoodT ops listed (R ++[x]) (rem.erase x):=by
  have hnd:=List.nodup_append.1 g.nodup
  unfold rdOk at hr
  split at hr
  · rename_i ox hox
    simp only[Bool.and_eq_true,beq_iff_eq,List.all_eq_true] at hr
    refine⟨g.size,fun j hj=>by rw[g.mem j hj,mem_erase_app hx],fun j hj=>g.lt j ((mem_erase_app hx j).1 hj),?_,fun y hy=>?_,?_,fun y hy z hz=>?_,g.closed,g.edges,g.irr⟩
    · rw[List.append_assoc,List.singleton_append]
      exact List.nodup_append.2 ⟨hnd.1,List.nodup_cons.2 ⟨List.Nodup.not_mem_erase hnd.2.1,hnd.2.1.erase x⟩,fun y hy z hz=>by
        rcases List.mem_cons.1 hz with rfl |hz
        · exact hnd.2.2 y hy _ hx
        · exact hnd.2.2 y hy z (List.mem_of_mem_erase hz)⟩
    · rcases List.mem_append.1 hy with h |h
      · exact g.cls0 y h
      · rw[List.mem_singleton.1 h];exact⟨ox,hox,hr.1⟩
    · refine List.pairwise_append.2 ⟨g.pairs,List.pairwise_singleton _ _,fun y hy z hz=>?_⟩
      rw[List.mem_singleton.1 hz];exact g.ahead y hy x hx
    · rcases List.mem_append.1 hy with h |h
      · exact g.ahead y h z (List.mem_of_mem_erase hz)
      · rw[List.mem_singleton.1 h];exact hr.2 z hz
  · cases hr
theorem GoodT.takes {listed:Array Bool}:∀{l R rem rem':List Nat},GoodT ops listed R rem→chkL ops (masksL ops ops.size) l rem=some rem'→GoodT ops listed (R ++l) rem'∧(R ++l ++rem').length=(R ++rem).length
  |[],R,rem,rem',g,h=>by cases h;simpa using g
  | x :: l,R,rem,rem',g,h=>by
    simp only[chkL] at h
    cases hc:(rem.contains x && rdOk ops (masksL ops ops.size) x (rem.erase x)) with
    |false=>rw[hc] at h;cases h
    | true=>
      rw[hc] at h
      simp only[Bool.and_eq_true,List.contains_eq_mem,decide_eq_true_eq] at hc
      obtain⟨g',hl⟩:=(g.take hc.1 hc.2).takes (l:=l) h
      have ea:R ++[x] ++l=R ++x :: l:=by simp
      rw[ea] at g' hl
      refine⟨g',hl.trans ?_⟩
      have:=List.length_erase_of_mem hc.1
      have:=List.length_pos_of_mem hc.1
      simp only[List.length_append,List.length_singleton,List.length_cons,List.length_nil]
      omega
def notSeg:IT→Bool
  |.seg ..=>false
  |_=>true
theorem norm {listed:Array Bool} {a:Act} {w:World}:∀(t:IT) (R rem:List Nat),GoodT ops listed R rem→chk ops (masksL ops ops.size) t rem=true→RWc P ops (withN (RT P ops Q t) Q) R a w→
    ∃t' R' rem',GoodT ops listed R' rem'∧chk ops (masksL ops ops.size) t' rem'=true∧RWc P ops (withN (RT P ops Q t') Q) R' a w∧notSeg t'=true∧(R' ++rem').length=(R ++rem).length
  | .seg l t,R,rem,g,hc,h=>by
    rw[chk_seg] at hc
    split at hc
    · rename_i rem' hl
      obtain⟨g',hlen⟩:=g.takes hl
      have h':RWc P ops (withN (RT P ops Q t) Q) (R ++order l) a w:=RWc_append (Q':=Q) h (fun _ _ _ h=>h) (fun _ _ h=>h)
      obtain⟨t',R',rem'',g2,c2,r2,n2,l2⟩:=norm t _ _ g' hc h'
      exact⟨t',R',rem'',g2,c2,r2,n2,l2.trans hlen⟩
    · cases hc
  |.done,R,rem,g,hc,h=>⟨_,_,_,g,hc,h,rfl,rfl⟩
  |.alt ..,R,rem,g,hc,h=>⟨_,_,_,g,hc,h,rfl,rfl⟩
  |.no,R,rem,g,hc,h=>⟨_,_,_,g,hc,h,rfl,rfl⟩
theorem branch_of {i:Nat} {rem:List Nat}:∀{s:IT},chkA ops (masksL ops ops.size) s rem=true→i∈heads s→∃t',chk ops (masksL ops ops.size) t' (rem.erase i)=true∧(∃o,ops[i]?=some o∧cls o.op≠0)∧∀{a:Act} {w:World},RT P ops Q s a w→RWc P ops (withN (RT P ops Q t') Q) [i] a w
  | .alt k t u,hc,hi=>by
    simp only[chkA_alt,Bool.and_eq_true,List.contains_eq_mem,decide_eq_true_eq] at hc
    by_cases e:i=k
    · subst e
      refine⟨t,hc.1.2,?_,fun h=>h.1⟩
      have h2:=hc.1.1.1.2
      split at h2
      · rename_i o ho;exact⟨o,ho,by simpa using h2⟩
      · cases h2
    · obtain⟨t',h1,h2,h3⟩:=branch_of hc.2 ((List.mem_cons.1 hi).resolve_left e)
      exact⟨t',h1,h2,fun h=>h3 h.2⟩
  |.done,_,hi=>by cases hi
  |.seg ..,_,hi=>by cases hi
  |.no,_,hi=>by cases hi
theorem head_free {i:Nat} {rem:List Nat}:∀{t:IT},chkA ops (masksL ops ops.size) t rem=true→i∈heads t→∀y∈rem.erase i,direct ops i y=false
  | .alt j t u,hc,hi=>by
    simp only[chkA_alt,Bool.and_eq_true,List.all_eq_true,Bool.not_eq_true'] at hc
    rcases List.mem_cons.1 hi with rfl |hi
    · exact hc.1.1.2
    · exact head_free hc.2 hi
  |.done,_,hi=>by cases hi
  |.seg ..,_,hi=>by cases hi
  |.no,_,hi=>by cases hi
theorem ready_iffT {listed:Array Bool} {R rem:List Nat} (g:GoodT ops listed R rem) {j:Nat}:j∈Region.ready .any ops listed↔j∈R ++rem∧∀x,direct ops j x=true→x ∉ R ++rem:=by
  rw[ready_iff g.size]
  constructor
  · rintro⟨h1,h2,h3⟩
    refine⟨(g.mem j h1).1 h2,fun x hx hm=>?_⟩
    have:=(g.mem x (g.lt x hm)).2 hm
    rw[h3 x hx] at this;cases this
  · rintro⟨h1,h2⟩
    refine⟨g.lt j h1,(g.mem j (g.lt j h1)).2 h1,fun x hx=>?_⟩
    cases hl:listed.getD x false with
    |true=>rfl
    |false=>exact(h2 x hx ((g.mem x (g.edges _ _ hx)).1 hl)).elim
theorem ready_mask {listed:Array Bool} {R rem:List Nat} (g:GoodT ops listed R rem) {i x:Nat} (hi:i∈Region.ready .any ops listed) (hx:x∈R ++rem):((masksL ops ops.size).getD i 0).testBit x=false:=by
  have hri:=(ready_iff g.size).1 hi
  cases hb:((masksL ops ops.size).getD i 0).testBit x with
  |false=>rfl
  | true=>
    have:=reach_listed g.closed (reach_of_mask _ i x hri.1 hb) hri.2.2
    have h2:=(g.mem x (g.lt x hx)).2 hx
    rw[h2] at this;cases this
theorem GoodT.list {listed:Array Bool} {R rem R' rem':List Nat} (g:GoodT ops listed R rem) {i:Nat} (hi:i∈Region.ready .any ops listed) (hR:R'.Sublist R) (hrem:∀y∈rem',y∈rem) (hnd:(R' ++rem').Nodup) (hm:∀j,j∈R' ++rem'↔j∈R ++rem∧j≠i):GoodT ops (listed.setIfInBounds i true) R' rem':=by
  have hri:=(ready_iff g.size).1 hi
  refine⟨by simpa using g.size,fun j hj=>?_,fun j hj=>g.lt j ((hm j).1 hj).1,hnd,fun x hx=>g.cls0 x (hR.subset hx),g.pairs.sublist hR,fun x hx y hy=>g.ahead x (hR.subset hx) y (hrem y hy),fun j hj x hx=>?_,g.edges,g.irr⟩
  · by_cases hij:i=j
    · subst hij
      have:(listed.setIfInBounds i true).getD i false=true:=by simp[g.size,hj]
      simp only[this,Bool.true_eq_false,false_iff]
      intro h;exact((hm i).1 h).2 rfl
    · rw[getD_set_ne false hij,g.mem j hj,hm j]
      constructor
      · intro h;exact⟨h,fun e=>hij e.symm⟩
      · intro h;exact h.1
  · by_cases hij:i=j
    · subst hij;exact getD_set_true (hri.2.2 x hx)
    · rw[getD_set_ne false hij] at hj
      exact getD_set_true (g.closed j hj x hx)
theorem pre_ok {listed:Array Bool} {R rem pre:List Nat} (g:GoodT ops listed R rem) {i:Nat} {oi:Oper} (hi:i∈Region.ready .any ops listed) (hoi:ops[i]?=some oi) (hpre:∀x∈pre,x∈R∧okPair ops (masksL ops ops.size) x i=true):
    ∀x∈pre,∃ox,ops[x]?=some ox∧cls ox.op=0∧cls oi.op≠2∧ox.apart ops oi=true:=by
  intro x hx
  obtain⟨hxR,hp⟩:=hpre x hx
  have hnm:=ready_mask g hi (List.mem_append_left rem hxR)
  have hxl:=g.lt x (List.mem_append_left _ hxR)
  simp only[okPair,hnm,Bool.false_or,hoi,Array.getElem?_eq_getElem hxl,Bool.and_eq_true,beq_iff_eq,bne_iff_ne] at hp
  exact⟨ops[x],by simp[hxl],hp.2.1.1,hp.2.1.2,hp.2.2⟩
theorem wpAny_of_RT (hsel:∀(j:Nat) (o:Oper) cs b,ops[j]?=some o→o.op≠.select cs b)
    (hQ:∀c a d v w,Q (.panic c) (Act.put a d v) w→Q (.panic c) a w):
    ∀ (fuel:Nat) (t:IT) (R rem:List Nat) (listed:Array Bool) (a:Act) (w:World),GoodT ops listed R rem→chk ops (masksL ops ops.size) t rem=true→(R ++rem).length≤fuel→RWc P ops (withN (RT P ops Q t) Q) R a w→
      wpAny P .any ops Q fuel listed a w:=by
  intro fuel
  induction fuel with
  | zero=>
    intro t R rem listed a w g hc hl h
    obtain⟨t,R,rem,g,hc,h,hn,hl'⟩:=norm t R rem g hc h
    rw[←hl'] at hl
    have e:=List.eq_nil_of_length_eq_zero (Nat.le_zero.1 hl)
    obtain⟨rfl,rfl⟩:=List.append_eq_nil_iff.1 e
    refine⟨?_,?_⟩
    · apply List.eq_nil_iff_forall_not_mem.2
      intro j hj
      have:=((ready_iffT g).1 hj).1
      cases this
    · cases t with
      |done=>exact h
      |seg=>cases hn
      |alt i t u=>simp[chk_alt,chkA_alt] at hc
      |no=>simp[chk_no] at hc
  | succ fuel ih=>
    intro t R rem listed a w g hc hl h
    obtain⟨t,R,rem,g,hc,h,hn,hl'⟩:=norm t R rem g hc h
    rw[←hl'] at hl
    refine⟨fun hr=>?_,fun i hi=>?_⟩
    · cases R with
      | cons x R=>
        exfalso
        have:x∈Region.ready .any ops listed:=(ready_iffT g).2 ⟨by simp,fun y hy hm=>by
          rcases List.mem_append.1 hm with hm |hm
          · rcases List.mem_cons.1 hm with rfl |hm
            · rw[g.irr _ (g.edges _ _ hy)] at hy;cases hy
            · have:=(List.pairwise_cons.1 g.pairs).1 y hm
              simp[okPair,hy] at this
          · have:=g.ahead x (List.mem_cons_self ..) y hm
            simp[okPair,hy] at this⟩
        rw[hr] at this;cases this
      | nil =>
        cases t with
        |done=>exact h
        |seg=>cases hn
        |no=>simp[chk_no] at hc
        | alt i t u=>
          exfalso
          simp only[chk_alt,Bool.and_eq_true] at hc
          have h1:=head_free hc.1 (List.mem_cons_self ..)
          have h0:=hc.1
          simp only[chkA_alt,Bool.and_eq_true,List.contains_eq_mem,decide_eq_true_eq] at h0
          have:i∈Region.ready .any ops listed:=(ready_iffT g).2 ⟨by simpa using h0.1.1.1.1,fun y hy hm=>by
            simp only[List.nil_append] at hm
            by_cases e:y=i
            · subst e;rw[g.irr _ (g.edges _ _ hy)] at hy;cases hy
            · rw[h1 y ((List.mem_erase_of_ne e).2 hm)] at hy;cases hy⟩
          rw[hr] at this;cases this
    · have hri := (ready_iff g.size).1 hi
      have hoi:ops[i]?=some ops[i]:=by simp[hri.1]
      have hnd:=List.nodup_append.1 g.nodup
      unfold wpOp
      simp only[hoi]
      rcases List.mem_append.1 ((ready_iffT g).1 hi).1 with hiR |hirem
      · obtain⟨pre,post,rfl⟩:=List.append_of_mem hiR
        have hpw:=List.pairwise_append.1 g.pairs
        have hpre:=pre_ok g hi hoi (pre:=pre) (fun x hx=>⟨List.mem_append_left _ hx,hpw.2.2 x hx i (List.mem_cons_self ..)⟩)
        obtain⟨o',ho',hc0⟩:=g.cls0 i hiR
        have eo:ops[i]=o':=by rw[hoi] at ho';exact Option.some.inj ho'
        rw[←eo] at hc0
        have hf:=RWc_front hoi hsel (withN_panic hQ) post pre a w (.inr (by rw[hc0];decide)) (fun x hx=>let ⟨ox,h1,h2,_,h4⟩:=hpre x hx;⟨ox,h1,h2,h4⟩) h
        have hnd0:=hnd.1
        rw[List.nodup_append] at hnd0
        have hni:i ∉ pre ++post:=by
          intro hm
          rcases List.mem_append.1 hm with hm |hm
          · exact hnd0.2.2 i hm i (List.mem_cons_self ..) rfl
          · exact(List.nodup_cons.1 hnd0.2.1).1 hm
        have hsub:(pre ++post).Sublist (pre ++i :: post):=List.Sublist.append (List.Sublist.refl _) (List.sublist_cons_self ..)
        have g':GoodT ops (listed.setIfInBounds i true) (pre ++post) rem:=g.list hi hsub (fun _ h=>h)
          (g.nodup.sublist (List.Sublist.append hsub (List.Sublist.refl _))) (fun j=>by
            simp only[List.mem_append,List.mem_cons]
            constructor
            · intro hm
              refine⟨by rcases hm with (h |h) |h<;>simp[h],fun e=>?_⟩
              subst e
              rcases hm with hm |hm
              · exact hni (List.mem_append.2 hm)
              · exact hnd.2.2 j hiR j hm rfl
            · rintro⟨(h |h |h) |h,hne⟩
              · exact .inl (.inl h)
              · exact(hne h).elim
              · exact .inl (.inr h)
              · exact .inr h)
        have hlen:(pre ++post ++rem).length≤fuel:=by simp at hl ⊢;omega
        rw[RWc_reader hoi hc0] at hf
        obtain⟨v,hy,hf⟩:=hf
        have hk:=ih t _ _ _ _ w g' hc hlen hf
        rcases hy with⟨hw,hv⟩ |⟨hw,rfl⟩
        · rw[if_pos hw]
          refine .inl ?_
          simp only[Oper.wp,hv w (Below.refl _ _),Oper.upon]
          exact hk
        · rw[if_neg (by rw[hw];simp)]
          exact hk
      · cases t with
        |done=>simp only[chk_done,List.isEmpty_iff] at hc;subst hc;cases hirem
        |seg=>cases hn
        |no=>simp[chk_no] at hc
        | alt j t u =>
          simp only[chk_alt,Bool.and_eq_true,List.all_eq_true,Bool.or_eq_true,List.any_eq_true] at hc
          have hih:i∈heads (.alt j t u):=by
            rcases hc.2 i hirem with h |⟨x,hx,h⟩
            · simpa using h
            · have:=ready_mask g hi (List.mem_append_right R hx)
              simp only[masked] at h
              rw[this] at h;cases h
          obtain⟨t',hct,⟨o',ho',hcn⟩,hbr⟩:=branch_of (P:=P) (Q:=Q) hc.1 hih
          have eo:ops[i]=o':=by rw[hoi] at ho';exact Option.some.inj ho'
          rw[←eo] at hcn
          have hR1:RWc P ops (withN (RT P ops Q t') Q) (R ++[i]) a w:=by
            refine RWc_append (Q':=Q) ?_ (fun _ _ _ h=>h) (fun _ _ h=>h)
            have mono :∀(c:List Nat) (a:Act) (w:World),RWc P ops (withN (RT P ops Q (.alt j t u)) Q) c a w→RWc P ops (withN (fun a w=>RWc P ops (withN (RT P ops Q t') Q) [i] a w) Q) c a w:=by
              intro c
              induction c with
              |nil=>intro a w h;exact hbr h
              | cons x c ihc=>
                intro a w h
                simp only[RWc] at h ⊢
                split at h
                · exact h.elim
                · split at h
                  · rename_i hw
                    rw[if_pos hw]
                    split at h
                    · rename_i hc
                      rw[if_pos hc]
                      obtain⟨v,hv,h⟩:=h
                      exact⟨v,hv,ihc _ _ h⟩
                    · rename_i hc
                      rw[if_neg hc]
                      exact wp_Q (Q:=withN (RT P ops Q (.alt j t u)) Q) (fun _ _ _ h=>h) (fun _ _ h=>h) (wp_mono' (fun a' w' k=>⟨k.1,ihc _ _ k.2⟩) h)
                  · rename_i hw
                    rw[if_neg hw]
                    exact ihc _ _ h
            exact mono R a w h
          have hpre:=pre_ok g hi hoi (pre:=R) (fun x hx=>⟨hx,g.ahead x hx i hirem⟩)
          have hc2:R=[]∨cls ops[i].op≠2:=by
            cases R with
            |nil=>exact .inl rfl
            |cons x R=>obtain⟨_,_,_,h2,_⟩:=hpre x (List.mem_cons_self ..);exact .inr h2
          have hf:=RWc_front hoi hsel (withN_panic hQ) [] R a w hc2 (fun x hx=>let ⟨ox,h1,h2,_,h4⟩:=hpre x hx;⟨ox,h1,h2,h4⟩) hR1
          rw[List.append_nil] at hf
          have g':GoodT ops (listed.setIfInBounds i true) R (rem.erase i):=g.list hi (List.Sublist.refl _) (fun _ h=>List.mem_of_mem_erase h)
            (g.nodup.sublist (List.Sublist.append (List.Sublist.refl _) List.erase_sublist)) (fun x=>by
              simp only[List.mem_append]
              constructor
              · rintro(h |h)
                · exact⟨.inl h,fun e=>hnd.2.2 x h i hirem e⟩
                · exact⟨.inr (List.mem_of_mem_erase h),fun e=>by subst e;exact(List.Nodup.not_mem_erase hnd.2.1) h⟩
              · rintro⟨h |h,hne⟩
                · exact .inl h
                · exact .inr ((List.mem_erase_of_ne hne).2 h))
          have hlen:(R ++rem.erase i).length≤fuel:=by
            have:=List.length_erase_of_mem hirem
            have:=List.length_pos_of_mem hirem
            simp at hl ⊢;omega
          have h:=(RWc_impure hoi hcn).1 hf
          split
          · rename_i hw
            rw[if_pos hw] at h
            exact .inl (wp_Q (Q:=withN (RT P ops Q t') Q) (fun _ _ _ h=>h) (fun _ _ h=>h) (Oper.wp_mono (fun a' w' k=>ih t' _ _ _ a' w' g' hct hlen k.2) h))
          · rename_i hw
            rw[if_neg hw] at h
            exact ih t' _ _ _ _ w g' hct hlen h
theorem good_start (he:edgesOk ops=true) (hirr:(List.range ops.size).all (fun x=>!direct ops x x)=true):GoodT ops (Array.replicate ops.size false) [] (List.range ops.size):=by
  simp only[List.all_eq_true,List.mem_range,Bool.not_eq_true'] at hirr
  refine⟨by simp,fun j hj=>by simp[hj],fun j hj=>by simpa using hj,by simpa using List.nodup_range,(by intro x hx;cases hx),.nil,(by intro x hx;cases hx),fun j hj=>?_,fun y x hx=>?_,hirr⟩
  · exfalso
    rcases Nat.lt_or_ge j ops.size with h |h
    · simp[h] at hj
    · simp[Nat.not_lt.2 h] at hj
  · cases ho:ops[y]? with
    |none=>simp[direct,ho] at hx
    | some o=>
      simp only[direct,ho] at hx
      obtain⟨e,he',hb⟩:=Array.any_eq_true'.1 hx
      simp only[Bool.and_eq_true,beq_iff_eq] at hb
      have h6:=Array.all_eq_true_iff_forall_mem.1 (Array.all_eq_true_iff_forall_mem.1 he o (Array.mem_of_getElem? ho)) e he'
      simp only[hb.1,Bool.not_true,Bool.false_or,decide_eq_true_eq] at h6
      rw[←hb.2];exact h6
theorem wp_region_t {id:Nat} {a:Act} {w:World} (hm:P.follows .mixedOrders=true) (t:IT) (hc:regionOkT ops t=true)
    (hQ:∀c a d v w,Q (.panic c) (Act.put a d v) w→Q (.panic c) a w) (h:RT P ops Q t a {w with drawn:=w.drawn+1}):
    (Code.region id ops true).wp P Q a w:=by
  simp only[regionOkT,Bool.and_eq_true] at hc
  exact wp_region_any hm (wpAny_of_RT (Region.noSelect_spec hc.1.1.2) hQ _ t [] _ _ a _ (good_start hc.1.1.1 hc.1.2) hc.2 (by simp) h)
inductive GT where
  |done
  |seg (l:List GX) (t:GT)
  |alt (g:GX) (t u:GT)
  |no
def prepT (n:Nat) (ops:Array Oper):IT→Option GT
  |.done=>some .done
  |.no=>some .no
  | .seg l t=>match prep n ops l,prepT n ops t with
    |some l',some t'=>some (.seg l' t')
    |_,_=>none
  | .alt i t u=>match prep n ops [.o i],prepT n ops t,prepT n ops u with
    |some [g],some t',some u'=>some (.alt g t' u')
    |_,_,_=>none
def walkT (M:Mach) (E:List PanicEntry→PH→Prop) (K:AS→PH→Prop):GT→AS→PH→Prop
  |.done=>K
  |.seg l t=>fun S h=>walk M E l (walkT M E K t) S h
  |.alt g t u=>fun S h=>walk M E [g] (walkT M E K t) S h∧walkT M E K u S h
  |.no=>fun _ _=>True
theorem wt_seg {M:Mach} {E:List PanicEntry→PH→Prop} {K:AS→PH→Prop} {l:List GX} {t:GT} {S:AS} {h:PH} (hk:walk M E l (walkT M E K t) S h):walkT M E K (.seg l t) S h:=hk
theorem wt_alt {M:Mach} {E:List PanicEntry→PH→Prop} {K:AS→PH→Prop} {g:GX} {t u:GT} {S:AS} {h:PH} (h1:walk M E [g] (walkT M E K t) S h) (h2:walkT M E K u S h):walkT M E K (.alt g t u) S h:=⟨h1,h2⟩
theorem wt_no {M:Mach} {E:List PanicEntry→PH→Prop} {K:AS→PH→Prop} {S:AS} {h:PH}:walkT M E K .no S h:=trivial
theorem wt_done {M:Mach} {E:List PanicEntry→PH→Prop} {K:AS→PH→Prop} {S:AS} {h:PH} (hk:K S h):walkT M E K .done S h:=hk
def withA (K:AS→PH→Prop) (Q:Exit→AS→PH→Prop):Exit→AS→PH→Prop
  |.normal=>K
  |e=>Q e
theorem RWc_to {Q Q':Exit→Act→World→Prop} (hn:∀a w,Q .normal a w→Q' .normal a w) (hp:∀c a w,Q (.panic c) a w→Q' (.panic c) a w) (ho:∀a w,Q .outgrown a w→Q' .outgrown a w):∀(c:List Nat) (a:Act) (w:World),RWc P ops Q c a w→RWc P ops Q' c a w:=by
  intro c
  induction c with
  |nil=>intro a w h;exact hn a w h
  | cons x c ih=>
    intro a w h
    simp only[RWc] at h ⊢
    split at h
    · exact h.elim
    · split at h
      · rename_i hw
        rw[if_pos hw]
        split at h
        · rename_i hc
          rw[if_pos hc]
          obtain⟨v,hv,h⟩:=h
          exact⟨v,hv,ih _ _ h⟩
        · rename_i hc
          rw[if_neg hc]
          exact wp_Q hp ho (wp_mono' (fun a' w' k=>⟨k.1,ih _ _ k.2⟩) h)
      · rename_i hw
        rw[if_neg hw]
        exact ih _ _ h
theorem RT_of_walkT {M:Mach} {C:Ctx} {n:Nat} {Q:Exit→AS→PH→Prop} {E:List PanicEntry→PH→Prop}:∀(t:IT) (g:GT) (S:AS) (h:PH) (β:Nat→Nat) (a:Act) (w:World),prepT n ops t=some g→walkT M E (fun S h=>Q .normal S h) g S h→G M C n S h β a w→
    RT M.P ops (LQ M n C Q E) t a w:=by
  intro t
  have piece:∀(pl:List PL) (l:List GX) (t:IT) (g:GT) (S:AS) (h:PH) (β:Nat→Nat) (a:Act) (w:World),prep n ops pl=some l→walk M E l (walkT M E (fun S h=>Q .normal S h) g) S h→G M C n S h β a w→
      (∀(S:AS) (h:PH) (β:Nat→Nat) (a:Act) (w:World),walkT M E (fun S h=>Q .normal S h) g S h→G M C n S h β a w→RT M.P ops (LQ M n C Q E) t a w)→RWc M.P ops (withN (RT M.P ops (LQ M n C Q E) t) (LQ M n C Q E)) (order pl) a w:=by
    intro pl l t g S h β a w hl hw hg ih
    have hn:∀a w,LQ M n C (withA (walkT M E (fun S h=>Q .normal S h) g) Q) E .normal a w→withN (RT M.P ops (LQ M n C Q E) t) (LQ M n C Q E) .normal a w:=by
      rintro a w ⟨S',h',β',g',hk⟩
      exact ih _ _ _ _ _ hk g'
    exact RWc_to (P:=M.P) (Q:=LQ M n C (withA (walkT M E (fun S h=>Q .normal S h) g) Q) E) (Q':=withN (RT M.P ops (LQ M n C Q E) t) (LQ M n C Q E)) hn (fun _ _ _ h=>h) (fun _ _ h=>h) _ _ _ (RWc_of_walk pl l S h β a w hl hw hg)
  induction t with
  |done=>intro g S h β a w hp hw hg;cases hp;exact⟨S,h,β,hg,hw⟩
  |no=>intro g S h β a w hp hw hg;trivial
  | seg l t ih=>
    intro g S h β a w hp hw hg
    simp only[prepT] at hp
    split at hp
    · rename_i l' t' h1 h2
      cases hp
      exact piece l l' t t' S h β a w h1 hw hg (fun S h β a w hk hg=>ih t' S h β a w h2 hk hg)
    · cases hp
  | alt i t u iht ihu=>
    intro g S h β a w hp hw hg
    simp only[prepT] at hp
    split at hp
    · rename_i g' t' u' h1 h2 h3
      cases hp
      exact⟨piece [.o i] [g'] t t' S h β a w h1 hw.1 hg (fun S h β a w hk hg=>iht t' S h β a w h2 hk hg),ihu u' S h β a w h3 hw.2 hg⟩
    · cases hp
theorem AWP_t {M:Mach} {C:Ctx} {n:Nat} {S:AS} {h:PH} {Q:Exit→AS→PH→Prop} {E:List PanicEntry→PH→Prop} {id:Nat} {g:GT} {y:Code} (t:IT) (hc:regionOkT ops t=true) (hl:prepT n ops t=some g) (hw:∀K:AS→PH→Prop,(∀S h,AWP M n C y Q E S h→K S h)→walkT M E K g S h):AWP M n C (.seq (.region id ops true) y) Q E S h:=
  AWP_seq fun β a w hg=>wp_region_t M.mixed t hc (fun c a d v w=>LQ_panic c a d v w) (RT_of_walkT (Q:=qs (fun S h=>AWP M n C y Q E S h) Q) t g S h β a _ hl (hw _ fun _ _ h=>h) (hg.below (below_drew w)))
theorem AWP_tk {M:Mach} {C:Ctx} {n:Nat} {S:AS} {h:PH} {Q:Exit→AS→PH→Prop} {E:List PanicEntry→PH→Prop} {id:Nat} {g:GT} (t:IT) (hc:regionOkT ops t=true) (hl:prepT n ops t=some g) (hw:∀K:AS→PH→Prop,(∀S h,Q .normal S h→K S h)→walkT M E K g S h):AWP M n C (.region id ops true) Q E S h:=
  fun β a w hg=>wp_region_t M.mixed t hc (fun c a d v w=>LQ_panic c a d v w) (RT_of_walkT t g S h β a _ hl (hw _ fun _ _ h=>h) (hg.below (below_drew w)))
end
end Go.Q
namespace Go.Q
open Go.RowKit (Below)
@[go_sem] def pos (i:Nat):List Nat→Nat→Option Nat
  |[],_=>none
  |x :: l,j=>bif x == i then some j else pos i l (j+1)
@[go_sem] def selV (ix:List Nat):AV→AV
  | .p i off=>match pos i ix 0 with
    |some j=>.p j off
    |none=>.top
  | .s i off len cap=>match pos i ix 0 with
    |some j=>.s j off len cap
    |none=>.top
  |x=>x
def selL (ix:List Nat):List (Nat×AV)→List (Nat×AV)
  |[]=>[]
  |(k,x) :: l=>(k,selV ix x) :: selL ix l
@[go_sem] def selB (S:AS):List Nat→List (List Value)
  |[]=>[]
  |i :: l=>S.box i :: selB S l
@[go_sem] def AS.sel (S:AS) (ix:List Nat):AS:=⟨selL ix S.sl,selB S ix⟩
@[go_sem] theorem lk_sel (ix:List Nat) (l:List (Nat×AV)) (t:Nat):lk (selL ix l) t=selV ix (lk l t):=by
  induction l with
  |nil=>rfl
  | cons y l ih=>
    obtain⟨k,x⟩:=y
    simp only[selL,lk]
    cases(k == t) with
    |true=>rfl
    |false=>exact ih
theorem pos_some {i:Nat}:∀{l:List Nat} {j k:Nat},pos i l j=some k→j≤k∧k - j < l.length∧l[k - j]?=some i
  |[],_,_,h=>by cases h
  | x :: l,j,k,h=>by
    simp only[pos] at h
    cases hx:(x == i) with
    | true=>
      rw[hx] at h;cases h
      obtain rfl:x=i:=by simpa using hx
      simp
    | false=>
      rw[hx] at h
      obtain⟨h1,h2,h3⟩:=pos_some (l:=l) h
      obtain⟨d,rfl⟩:∃d,k=j+1+d:=⟨k - (j+1),by omega⟩
      have e1:j+1+d - (j+1)=d:=by omega
      have e2:j+1+d - j=d+1:=by omega
      rw[e1] at h2 h3
      rw[e2]
      exact⟨by omega,by simp;omega,by simpa using h3⟩
theorem selB_get (S:AS):∀(ix:List Nat) (j:Nat),(selB S ix)[j]?=(ix[j]?).map S.box
  |[],j=>by simp[selB]
  |i :: l,0=>by simp[selB]
  |i :: l,j+1=>by simp only[selB,List.getElem?_cons_succ];exact selB_get S l j
section
variable {M:Mach} {C:Ctx} {n:Nat} {S:AS} {h:PH} {β:Nat→Nat} {a:Act} {w:World} {Q:Exit→AS→PH→Prop} {E:List PanicEntry→PH→Prop}
theorem G.sel [NoPin C] (g:G M C n S h β a w) (ix:List Nat) (hn:nodupB ix=true):G M C n (S.sel ix) h (fun j=>β (ix.getD j 0)) a w:=by
  have hnd:=nodup_of_B hn
  have hlen:∀l:List Nat,(selB S l).length=l.length:=by
    intro l
    induction l with
    |nil=>rfl
    |cons i l ih=>simp[selB,ih]
  have hbox:∀(j:Nat) (cs:List Value),(S.sel ix).bx[j]?=some cs→cs≠[]→∃i,ix[j]?=some i∧ix.getD j 0=i∧S.bx[i]?=some cs:=by
    intro j cs hj hne
    simp only[AS.sel,selB_get] at hj
    cases hi:ix[j]? with
    |none=>rw[hi] at hj;cases hj
    | some i=>
      rw[hi] at hj
      simp only[Option.map_some,Option.some.injEq] at hj
      refine⟨i,rfl,by simp[hi],?_⟩
      subst hj
      unfold AS.box at hne ⊢
      cases hb:S.bx[i]? with
      |none=>simp[hb] at hne
      |some cs=>simp[hb]
  have hv :∀{x:AV} {y:Value},Conc β x y→Conc (fun j=>β (ix.getD j 0)) (selV ix x) y:=by
    intro x y hc
    rcases hc with rfl |rfl
    · exact .inl rfl
    · cases x with
      |top=>exact .inl rfl
      |v x=>exact .inr rfl
      | p i off=>
        simp only[selV]
        cases hp:pos i ix 0 with
        |none=>exact .inl rfl
        | some j=>
          obtain⟨_,_,h3⟩:=pos_some hp
          refine .inr ?_
          simp only[Nat.sub_zero] at h3
          simp[cv,h3]
      | s i off len cap=>
        simp only[selV]
        cases hp:pos i ix 0 with
        |none=>exact .inl rfl
        | some j=>
          obtain⟨_,_,h3⟩:=pos_some hp
          refine .inr ?_
          simp only[Nat.sub_zero] at h3
          simp[cv,h3]
  refine⟨g.size,g.defers,g.fine,fun j cs hj hne=>?_,fun i j ci cj hi hj hci hcj hij=>?_,fun t=>?_,fun t i hi=>?_,?_,fun i hi=>?_⟩
  · obtain⟨i,_,h2,h3⟩:=hbox j cs hj hne
    simp only[h2]
    exact g.boxes i cs h3 hne
  · obtain⟨p,h1,h2,h3⟩:=hbox i ci hi hci
    obtain⟨q,k1,k2,k3⟩:=hbox j cj hj hcj
    simp only[h2,k2] at hij
    obtain rfl:=g.inj p q _ _ h3 k3 hci hcj hij
    have hi':i < ix.length:=(List.getElem?_eq_some_iff.1 h1).1
    exact(List.getElem?_inj hi' hnd).1 (h1.trans k1.symm)
  · simp only[AS.sel,lk_sel]
    exact hv (g.slots t)
  · simp only[AS.sel,lk_sel] at hi
    simp only[AS.sel,hlen]
    cases hx:lk S.sl t with
    |top=>rw[hx] at hi;cases hi
    |v x=>rw[hx] at hi;cases hi
    | p k off=>
      rw[hx] at hi
      simp only[selV] at hi
      cases hp:pos k ix 0 with
      |none=>rw[hp] at hi;cases hi
      |some j=>rw[hp] at hi;cases hi;have:=pos_some hp;omega
    | s k off len cap=>
      rw[hx] at hi
      simp only[selV] at hi
      cases hp:pos k ix 0 with
      |none=>rw[hp] at hi;cases hi
      |some j=>rw[hp] at hi;cases hi;have:=pos_some hp;omega
  · rw[NoPin.nil];exact Nat.zero_le _
  · rw[NoPin.nil] at hi;cases hi
@[go_sem] def AS.leS (S S':AS) (ix:List Nat):Prop:=nodupB ix=true∧(S.sel ix).le S'
theorem AWP_loopS [NoPin C] {ι:Type} {c:Code} (St:ι→AS) (Inv:ι→PH→Prop) (m:ι→Nat) (x0:ι) (ix0:List Nat) (hS:S.leS (St x0) ix0) (h0:Inv x0 h)
    (round:∀x h,Inv x h→AWP M n C c (qs (fun S' h'=>∃y ix,S'.leS (St y) ix∧Inv y h'∧m y < m x) Q) E (St x) h):AWP M n C (.loop c) Q E S h:=fun β a w g=>by
  refine wp_loop_ghost (fun k a w=>∃x h β,m x=k∧Inv x h∧G M C n (St x) h β a w) (m x0) ⟨x0,h,_,rfl,h0,(g.sel ix0 hS.1).weaken hS.2 (NoPin.le _)⟩ ?_
  rintro k a w ⟨x,h,β,rfl,hi,g⟩
  refine wp_mono (round x h hi β a w g) fun e a' w' hq=>?_
  cases e with
  | normal=>
    obtain⟨S',h',β',g',y,ix,hle,hy,hlt⟩:=hq
    exact⟨m y,hlt,y,h',_,rfl,hy,(g'.sel ix hle.1).weaken hle.2 (NoPin.le _)⟩
  |_=>exact hq
end
attribute [go_sem] nodupB List.contains_cons List.contains_nil Bool.or_false Bool.false_or
end Go.Q
namespace Go.Q
open Go.RowKit (Below)
def chkY (ops:Array Oper):IT→Bool→Array Bool→Bool
  |.done,top,listed=>top && (Region.ready .any ops listed).isEmpty
  |.alt i t u,top,listed=>(!top || (!(Region.ready .any ops listed).isEmpty && (Region.ready .any ops listed).all fun j=>(heads (.alt i t u)).contains j)) && chkY ops t true (listed.setIfInBounds i true) && chkY ops u false listed
  |.no,top,_=>!top
  |.seg _ _,_,_=>false
def deep:IT→Nat
  |.alt _ t u=>max (deep t+1) (deep u)
  |_=>0
section
variable {P:Program} {ops:Array Oper}
theorem wpOp_of_RWc {Q:Exit→Act→World→Prop} {K:Act→World→Prop} {i:Nat} {a:Act} {w:World} (h:RWc P ops (withN K Q) [i] a w):wpOp P ops Q i K a w:=by
  have h:=wpOps_of_RWc _ _ _ h
  rw[wpOps_cons] at h
  unfold wpOp at h ⊢
  split at h
  · exact h
  · split at h
    · rename_i hw
      rw[if_pos hw]
      refine h.imp (fun k=>?_) (fun k=>⟨k.1,k.2⟩)
      exact wp_Q (fun _ _ _ h=>h) (fun _ _ h=>h) k
    · rename_i hw
      rw[if_neg hw]
      exact h
theorem any_of_walkT {M:Mach} {C:Ctx} {n:Nat} {Q:Exit→AS→PH→Prop} {E:List PanicEntry→PH→Prop}:∀(t:IT) (g:GT) (S:AS) (h:PH) (β:Nat→Nat) (a:Act) (w:World) (listed:Array Bool) (fuel:Nat),
    prepT n ops t=some g→walkT M E (fun S h=>Q .normal S h) g S h→G M C n S h β a w→
    (chkY ops t true listed=true→deep t≤fuel→wpAny M.P .any ops (LQ M n C Q E) fuel listed a w)∧
    (chkY ops t false listed=true→deep t≤fuel+1→∀i∈heads t,wpOp M.P ops (LQ M n C Q E) i (wpAny M.P .any ops (LQ M n C Q E) fuel (listed.setIfInBounds i true)) a w):=by
  intro t
  induction t with
  | done=>
    intro g S h β a w listed fuel hp hw hg
    cases hp
    refine⟨fun hc _=>?_,fun _ _ i hi=>by cases hi⟩
    simp only[chkY,Bool.true_and,List.isEmpty_iff] at hc
    cases fuel with
    |zero=>exact⟨hc,S,h,β,hg,hw⟩
    |succ fuel=>exact⟨fun _=>⟨S,h,β,hg,hw⟩,fun i hi=>by rw[hc] at hi;cases hi⟩
  | no=>
    intro g S h β a w listed fuel hp hw hg
    exact⟨fun hc=>by simp[chkY] at hc,fun _ _ i hi=>by cases hi⟩
  | seg l t ih=>
    intro g S h β a w listed fuel hp hw hg
    exact⟨fun hc=>by simp[chkY] at hc,fun hc=>by simp[chkY] at hc⟩
  | alt i t u iht ihu=>
    intro g S h β a w listed fuel hp hw hg
    simp only[prepT] at hp
    split at hp
    · rename_i g' t' u' h1 h2 h3
      cases hp
      have branch:∀fuel,chkY ops t true (listed.setIfInBounds i true)=true→deep t≤fuel→wpOp M.P ops (LQ M n C Q E) i (wpAny M.P .any ops (LQ M n C Q E) fuel (listed.setIfInBounds i true)) a w:=by
        intro fuel hc hd
        refine wpOp_of_RWc ?_
        have hn:∀a w,LQ M n C (withA (walkT M E (fun S h=>Q .normal S h) t') Q) E .normal a w→withN (wpAny M.P .any ops (LQ M n C Q E) fuel (listed.setIfInBounds i true)) (LQ M n C Q E) .normal a w:=by
          rintro a w ⟨S',h',β',g',hk⟩
          exact(iht t' S' h' β' a w _ fuel h2 hk g').1 hc hd
        exact RWc_to (P:=M.P) (Q:=LQ M n C (withA (walkT M E (fun S h=>Q .normal S h) t') Q) E) hn (fun _ _ _ h=>h) (fun _ _ h=>h) _ _ _ (RWc_of_walk [.o i] [g'] S h β a w h1 hw.1 hg)
      have all:∀fuel,chkY ops t true (listed.setIfInBounds i true)=true→chkY ops u false listed=true→deep (.alt i t u)≤fuel+1→
          ∀j∈heads (.alt i t u),wpOp M.P ops (LQ M n C Q E) j (wpAny M.P .any ops (LQ M n C Q E) fuel (listed.setIfInBounds j true)) a w:=by
        intro fuel hc1 hc2 hd j hj
        simp only[deep] at hd
        simp only[heads,List.mem_cons] at hj
        rcases hj with rfl |hj
        · exact branch fuel hc1 (by omega)
        · exact(ihu u' S h β a w listed fuel h3 hw.2 hg).2 hc2 (by omega) j hj
      refine⟨fun hc hd=>?_,fun hc hd=>?_⟩
      · simp only[chkY,Bool.not_true,Bool.false_or,Bool.and_eq_true,List.all_eq_true] at hc
        cases fuel with
        |zero=>simp only[deep] at hd;omega
        | succ fuel=>
          refine⟨fun hr=>?_,fun j hj=>?_⟩
          · rw[hr] at hc;simp at hc
          · exact all fuel hc.1.2 hc.2 hd j (by simpa using hc.1.1.2 j hj)
      · simp only[chkY,Bool.not_false,Bool.true_or,Bool.true_and,Bool.and_eq_true] at hc
        exact all fuel hc.1 hc.2 hd
    · cases hp
theorem wp_region_y {M:Mach} {C:Ctx} {n:Nat} {Q:Exit→AS→PH→Prop} {E:List PanicEntry→PH→Prop} {id:Nat} {g:GT} {S:AS} {h:PH} (t:IT) (hc:(Nat.ble (deep t) ops.size && chkY ops t true (Array.replicate ops.size false))=true) (hl:prepT n ops t=some g)
    (hw:walkT M E (fun S h=>Q .normal S h) g S h):AWP M n C (.region id ops true) Q E S h:=fun β a w hg=>by
  simp only[Bool.and_eq_true,Nat.ble_eq] at hc
  exact wp_region_any M.mixed ((any_of_walkT t g S h β a _ _ _ hl hw (hg.below (below_drew w))).1 hc.2 hc.1)
end
end Go.Q
namespace Go.Q
open Go.RowKit (Below)
inductive TT where
  |d
  |s (l:List Nat) (t:TT)
  |a (i:Nat) (t u:TT)
  |p (i:Nat) (t:TT)
  |n
def TT.it:TT→IT
  |.d=>.done
  |.s l t=>.seg (l.map .o) t.it
  |.a i t u=>.alt i t.it u.it
  |.p i t=>.seg [.p i] t.it
  |.n=>.no
def TT.pl:TT→Option (List PL)
  |.d=>some []
  |.s l t=>t.pl.map (l.map .o ++·)
  |.p i t=>t.pl.map (.p i :: ·)
  |_=>none
inductive PW where
  |o (l:List Nat)
  |t (t:TT)
  |y (t:TT)
  |h (seps sepn:List (Nat×Nat)) (al c:List Nat)
  |x
abbrev Plans:=List (Nat×PW)
@[go_sem] def Plans.get:Plans→Nat→Option PW
  |[],_=>none
  |(i,p) :: l,k=>bif i == k then some p else Plans.get l k
def pickO (all:List Oper):List Nat→List Oper
  |[]=>[]
  | i :: l=>match nth all i with
    |some o=>o :: pickO all l
    |none=>pickO all l
def op2 {α:Type} (o:Option α) (k:α→Prop):Prop:=match o with
  |some a=>k a
  |none=>False
def op3 {α:Type} (o:Option α) (k:α→Prop) (d:Prop):Prop:=match o with
  |some a=>k a
  |none=>d
theorem op3_some {α:Type} (a:α) (k:α→Prop) (d:Prop):op3 (some a) k d=k a:=(rfl)
theorem op3_none {α:Type} (k:α→Prop) (d:Prop):op3 none k d=d:=(rfl)
theorem op2_some {α:Type} (a:α) (k:α→Prop):op2 (some a) k=k a:=(rfl)
def calS (M:Mach) (E:List PanicEntry→PH→Prop) (f:FuncId) (vs:List Value) (S:AS) (h:PH) (k:AS→PH→AV→Prop):Prop:=
  (∃R E',Spec M f vs.toArray h R E'∧(∀v h',Step h h'→R v h'→k S h' (.v v))∧(∀ch h',Step h h'→E' ch h'→E ch h'))∨ownA M f vs S h k
def calL (M:Mach) (fo:Operand) (f:FuncId) (xs:List AV) (S:AS) (h:PH) (k:AS→PH→AV→Prop):Prop:=
  loanA M (cls (.call {callee:=.value fo,args:=#[],argTypes:=#[]})) f xs S h k∨lendA M f xs S h k
def calV (M:Mach) (E:List PanicEntry→PH→Prop) (fo:Operand) (f:FuncId) (first cap:List Value) (xs:List AV):Option (List Value)→AS→PH→(AS→PH→AV→Prop)→Prop
  |some vs,S,h,k=>calS M E f (first ++vs ++cap) S h k
  |none,S,h,k=>first=[]∧cap=[]∧calL M fo f xs S h k
def calA (M:Mach) (E:List PanicEntry→PH→Prop) (fo:Operand) (xs:List AV):AV→AS→PH→(AS→PH→AV→Prop)→Prop
  |.v (.func (.func f) first cap),S,h,k=>calV M E fo f first.toList cap.toList xs (vals xs) S h k
  |_,_,_,_=>False
def opA (M:Mach) (E:List PanicEntry→PH→Prop) (op:Op) (S:AS) (h:PH) (k:AS→PH→AV→Prop):Prop:=
  bif cls op == 0 then rdA M op S h (fun x=>k S h x) else imA M op S h E k
def bnA (P:Program) (op:BinOp) (T:TypeId) (x y:AV) (k:Value→Prop):Prop:=binA P op T x y k
section
variable {P:Program} {T:TypeId} {K L:IntKind} {a b:Int} {k:Value→Prop}
theorem bn_add:bnA P .add T (.v (.int K a)) (.v (.int K b)) k=k (.int K (K.wrap (a+b))):=by simp[bnA,binA,binI]
theorem bn_sub:bnA P .sub T (.v (.int K a)) (.v (.int K b)) k=k (.int K (K.wrap (a - b))):=by simp[bnA,binA,binI]
theorem bn_mul:bnA P .mul T (.v (.int K a)) (.v (.int K b)) k=k (.int K (K.wrap (a*b))):=by simp[bnA,binA,binI]
theorem bn_quo (h:b≠0):bnA P .quo T (.v (.int K a)) (.v (.int K b)) k=k (.int K (K.wrap (a.tdiv b))):=by simp[bnA,binA,binI,h]
theorem bn_rem (h:b≠0):bnA P .rem T (.v (.int K a)) (.v (.int K b)) k=k (.int K (a.tmod b)):=by simp[bnA,binA,binI,h]
theorem bn_and:bnA P .and T (.v (.int K a)) (.v (.int K b)) k=k (.int K (andI K a b)):=by simp[bnA,binA,binI]
theorem bn_or:bnA P .or T (.v (.int K a)) (.v (.int K b)) k=k (.int K (orI K a b)):=by simp[bnA,binA,binI]
theorem bn_xor:bnA P .xor T (.v (.int K a)) (.v (.int K b)) k=k (.int K (xorI K a b)):=by simp[bnA,binA,binI]
theorem bn_eql:bnA P .eql T (.v (.int K a)) (.v (.int K b)) k=k (.bool (a == b)):=by simp[bnA,binA,binI]
theorem bn_neq:bnA P .neq T (.v (.int K a)) (.v (.int K b)) k=k (.bool (a != b)):=by simp[bnA,binA,binI]
theorem bn_lss:bnA P .lss T (.v (.int K a)) (.v (.int K b)) k=k (.bool (decide (a < b))):=by simp[bnA,binA,binI]
theorem bn_leq:bnA P .leq T (.v (.int K a)) (.v (.int K b)) k=k (.bool (decide (a≤b))):=by simp[bnA,binA,binI]
theorem bn_gtr:bnA P .gtr T (.v (.int K a)) (.v (.int K b)) k=k (.bool (decide (a > b))):=by simp[bnA,binA,binI]
theorem bn_geq:bnA P .geq T (.v (.int K a)) (.v (.int K b)) k=k (.bool (decide (a≥b))):=by simp[bnA,binA,binI]
theorem bn_shl (h:0≤b):bnA P .shl T (.v (.int K a)) (.v (.int L b)) k=k (.int K (K.wrap (a*2^(min b.toNat K.bits)))):=by simp[bnA,binA,h]
theorem bn_shr (h:0≤b):bnA P .shr T (.v (.int K a)) (.v (.int L b)) k=k (.int K (a.fdiv (2^(min b.toNat K.bits)))):=by simp[bnA,binA,h]
theorem bn_beq (a b:Bool):bnA P .eql T (.v (.bool a)) (.v (.bool b)) k=(uk P T=.bool∧k (.bool (a == b))):=(rfl)
theorem bn_bne (a b:Bool):bnA P .neq T (.v (.bool a)) (.v (.bool b)) k=(uk P T=.bool∧k (.bool (!(a == b)))):=(rfl)
theorem bn_seq (a:Option Addr) (m c m' c':Nat):bnA P .eql T (.v (.slice a m c)) (.v (.slice none m' c')) k=(uk P T=.slice∧k (.bool a.isNone)):=(rfl)
theorem bn_sne (a:Option Addr) (m c m' c':Nat):bnA P .neq T (.v (.slice a m c)) (.v (.slice none m' c')) k=(uk P T=.slice∧k (.bool (!a.isNone))):=(rfl)
theorem bn_teq (a b:ByteArray):bnA P .eql T (.v (.string a)) (.v (.string b)) k=k (.bool (a.toList == b.toList)):=(rfl)
theorem bn_tne (a b:ByteArray):bnA P .neq T (.v (.string a)) (.v (.string b)) k=k (.bool (!(a.toList == b.toList))):=(rfl)
theorem bn_tad (a b:ByteArray):bnA P .add T (.v (.string a)) (.v (.string b)) k=(((a.size+b.size:Nat):Int)≤IntKind.i64.max∧k (.string (a ++b))):=(rfl)
end
attribute [go_sem] op2_some op3_some op3_none bn_add bn_sub bn_mul bn_quo bn_rem bn_and bn_or bn_xor bn_eql bn_neq bn_lss bn_leq bn_gtr bn_geq bn_shl bn_shr bn_beq bn_bne bn_seq bn_sne bn_teq bn_tne bn_tad
def appB (S:AS) (h:PH) (b m:Nat) (news:List Value) (k:AS→PH→AV→Prop):AV→Prop
  |.v (.slice none 0 0)=>(m=0→k S h (.v (.slice none 0 0)))∧(m≠0→(2*m+1024)*b≤2^48∧∀junk:List Value,k (S.push (news ++junk)) h (.s S.bx.length 0 m (m+junk.length)))
  |.s i off len cap=>off=0∧len≤cap∧cap=(S.box i).length∧(2*(len+m)+1024)*b≤2^48∧
      ∀junk:List Value,k ((S.setBox i []).push ((S.box i).take len ++news ++junk)) h (.s S.bx.length 0 (len+m) (len+m+junk.length))
  |_=>False
def appP (S:AS) (h:PH) (b:Nat) (a:Option Addr) (m:Nat) (k:AS→PH→AV→Prop) (x:AV):Prop:=∃news:List Value,news.length=m∧(m≠0→∃ad,a=some ad∧∀(j:Nat) (v:Value),news[j]?=some v→h.at (ad.add j)=some v)∧news.all Value.oneCell'=true∧appB S h b m news k x
def appX (S:AS) (h:PH) (b:Nat) (k:AS→PH→AV→Prop) (x:AV):AV→Prop
  |.v (.slice a m _)=>appP S h b a m k x
  |.s i off m _=>off+m≤(S.box i).length∧(((S.box i).drop off).take m).all Value.oneCell'=true∧appB S h b m (((S.box i).drop off).take m) k x
  |_=>False
def copB (S:AS) (h:PH) (k:AS→PH→AV→Prop):AV→AV→Prop
  |.s i off dlen _,.v (.slice a m _)=>∃news:List Value,news.length=min m dlen∧(m≠0→∃ad,a=some ad∧∀(j:Nat) (v:Value),news[j]?=some v→h.at (ad.add j)=some v)∧news.all Value.oneCell'=true∧off < (S.box i).length∧off+min m dlen≤(S.box i).length∧
      k (S.setBox i (spl (S.box i) off news)) h (.v (.int .i64 (min m dlen:Nat)))
  |_,_=>False
def ld1 (S:AS) (h:PH) (a:Addr) (k:AS→PH→AV→Prop):Prop:=∃v,h.at a=some v∧k S h (.v v)
def ldm (S:AS) (h:PH) (a:Addr) (m:Nat) (k:AS→PH→AV→Prop):Prop:=∃cs:List Value,cs.length=m∧(∀j v,cs[j]?=some v→h.at (a.add j)=some v)∧k S h (.v (.agg cs.toArray))
def ixP (S:AS) (h:PH) (a:Option Addr) (j:Int) (len e:Nat) (k:AS→PH→AV→Prop):Prop:=∃ad,a=some ad∧0≤j∧j < len∧k S h (.v (.pointer (some (ad.add (j.toNat*e)))))
def ixS (S:AS) (h:PH) (s:ByteArray) (j:Int) (k:AS→PH→AV→Prop):Prop:=0≤j∧∃b,s[j.toNat]?=some b∧k S h (.v (.int .u8 b.toNat))
def ldN (S:AS) (h:PH) (a:Addr) (k:AS→PH→AV→Prop):Option Nat→Prop
  |none=>ld1 S h a k
  |some m=>ldm S h a m k
def ldA (M:Mach) (T:TypeId) (S:AS) (h:PH) (k:AS→PH→AV→Prop):AV→Prop
  |.p i off=>op2 (tk M.P T) fun t=>op2 (ldb t (S.box i) off) fun v=>k S h (.v v)
  |.v (.pointer (some a))=>op2 (tk M.P T) fun t=>ldN S h a k t
  |_=>False
def pickA (k:AV→Prop) (x y:AV):AV→Prop
  |.v (.bool t)=>k (bif t then x else y)
  |_=>False
def unA (k:AV→Prop):UnOp→AV→Prop
  |.not,.v (.bool b)=>k (.v (.bool (!b)))
  |.neg,.v (.int K a)=>k (.v (.int K (K.wrap (0 - a))))
  |_,_=>False
def convA (k:AV→Prop):UK→UK→AV→Prop
  |.int _,.int K,.v (.int _ a)=>k (.v (.int K (K.wrap a)))
  |_,_,_=>False
def faA (k:AV→Prop) (o:Nat):AV→Prop
  |.p i off=>k (.p i (off+o))
  |.v (.pointer (some a))=>k (.v (.pointer (some (a.add o))))
  |_=>False
def fA (k:AV→Prop) (pl:Option (Nat×Option Nat)):AV→Prop
  |.v (.agg cs)=>op2 pl fun(o,t)=>op2 (ldb t cs.toList o) fun v=>k (.v v)
  |_=>False
def iaA (M:Mach) (T:TypeId) (S:AS) (h:PH) (k:AS→PH→AV→Prop) (e:Nat):AV→AV→Prop
  |.v (.slice a len _),.v (.int _ j)=>uk M.P T=.slice∧ixP S h a j len e k
  |.s b off len _,.v (.int _ j)=>uk M.P T=.slice∧0≤j∧j < len∧k S h (.p b (off+j.toNat*e))
  |.p b off,.v (.int _ j)=>op2 (alen M.P T) fun m=>0≤j∧j < m∧k S h (.p b (off+j.toNat*e))
  |.v (.pointer (some a)),.v (.int _ j)=>op2 (alen M.P T) fun m=>0≤j∧j < m∧k S h (.v (.pointer (some (a.add (j.toNat*e)))))
  |_,_=>False
def iA (M:Mach) (T:TypeId) (S:AS) (h:PH) (k:AS→PH→AV→Prop):AV→AV→Prop
  |.v (.agg cs),.v (.int _ j)=>op2 (alen M.P T) fun m=>op2 (esz M.P T) fun e=>op2 (etk M.P T) fun t=>0≤j∧j < m∧op2 (ldb t cs.toList (j.toNat*e)) fun v=>k S h (.v v)
  |.v (.string s),.v (.int _ j)=>uk M.P T=.string∧ixS S h s j k
  |_,_=>False
def extA (k:AV→Prop) (i:Nat):AV→Prop
  |.v (.tuple vs)=>op2 (vs.toList[i]?) fun v=>k (.v v)
  |_=>False
def slcA (M:Mach) (T:TypeId) (k:AV→Prop) (lo hi:Option AV):AV→Prop
  |.v (.slice a len cap)=>uk M.P T=.slice∧op2 (esz M.P T) fun e=>op2 (lowA lo) fun l=>op2 (highA len hi) fun u=>
      0≤l∧l≤u∧u≤cap∧k (.v (.slice (if cap=l.toNat then a else a.map (·.add (l.toNat*e))) (u.toNat - l.toNat) (cap - l.toNat)))
  |.s b off len cap=>uk M.P T=.slice∧op2 (esz M.P T) fun e=>op2 (lowA lo) fun l=>op2 (highA len hi) fun u=>
      0≤l∧l≤u∧u≤cap∧k (.s b (if cap=l.toNat then off else off+l.toNat*e) (u.toNat - l.toNat) (cap - l.toNat))
  |_=>False
def miA (M:Mach) (T:TypeId) (k:AV→Prop):AV→Prop
  |.v v=>M.P.concrete T=true∧k (.v (.iface T v))
  |_=>False
def minA (k:AV→Prop):AV→AV→Prop
  |.v (.int K a),.v (.int _ b)=>k (.v (.int K (if b < a then b else a)))
  |_,_=>False
def maxA (k:AV→Prop):AV→AV→Prop
  |.v (.int K a),.v (.int _ b)=>k (.v (.int K (if b > a then b else a)))
  |_,_=>False
def boxA (S:AS) (h:PH) (k:AS→PH→AV→Prop):AV→Prop
  |.v v=>k (S.push v.cells.toList) h (.p S.bx.length 0)
  |_=>False
def stoA (M:Mach) (T:TypeId) (S:AS) (h:PH) (k:AS→PH→AV→Prop):AV→AV→Prop
  |.p i off,.v v=>op2 (tk M.P T) fun t=>op2 (fits t v) fun vs=>vs.all Value.oneCell'=true∧off < (S.box i).length∧off+vs.length≤(S.box i).length∧k (S.setBox i (spl (S.box i) off vs)) h .top
  |_,_=>False
def mksA (M:Mach) (T:TypeId) (S:AS) (h:PH) (k:AS→PH→AV→Prop):AV→AV→Prop
  |.v (.int _ l),.v (.int _ c)=>op2 (mk1 M.P T) fun(z,b)=>0≤l∧l≤c∧(b:Int)*c≤2^48∧k (S.push (List.replicate c.toNat z)) h (.s S.bx.length 0 l.toNat c.toNat)
  |_,_=>False
def panA (E:List PanicEntry→PH→Prop) (h:PH):AV→Prop
  |.v (.iface t v)=>E [{v:=.iface t v,recovered:=false}] h
  |_=>False
section
variable {M:Mach} {E:List PanicEntry→PH→Prop} {S S':AS} {h:PH} {k:AS→PH→AV→Prop}
theorem op_move (x:Operand):opA M E (.move x) S h k=k S h (S.ev x):=(rfl)
theorem op_assign (x:Operand):opA M E (.assign x) S h k=k S h (S.ev x):=(rfl)
theorem op_pick (c x y:Operand):opA M E (.pick c x y) S h k=pickA (k S h) (S.ev x) (S.ev y) (S.ev c):=by
  show rdA M (.pick c x y) S h (k S h)=_
  simp only[rdA]
  generalize S.ev c=v
  cases v<;>first |rfl |(rename_i v;cases v<;>rfl)
theorem op_load (T:TypeId) (x:Operand):opA M E (.load T x) S h k=ldA M T S h k (S.ev x):=by
  show rdA M (.load T x) S h (k S h)=_
  simp only[rdA]
  generalize S.ev x=v
  cases v<;>first |rfl |skip
theorem op_bin (o:BinOp) (T U:TypeId) (x y:Operand):opA M E (.binOp o T x y U) S h k=bnA M.P o T (S.ev x) (S.ev y) (fun v=>k S h (.v v)):=(rfl)
theorem op_un (o:UnOp) (T:TypeId) (x:Operand):opA M E (.unOp o T x) S h k=unA (k S h) o (S.ev x):=by
  show rdA M (.unOp o T x) S h (k S h)=_
  simp only[rdA]
  generalize S.ev x=v
  cases o<;>cases v<;>first |rfl |(rename_i v;cases v<;>rfl)
theorem op_conv (T U:TypeId) (x:Operand):opA M E (.convert T U x) S h k=convA (k S h) (uk M.P T) (uk M.P U) (S.ev x):=by
  show rdA M (.convert T U x) S h (k S h)=_
  simp only[rdA]
  generalize uk M.P T=a
  generalize uk M.P U=b
  generalize S.ev x=v
  cases a<;>cases b<;>cases v<;>first |rfl |(rename_i v;cases v<;>rfl)
theorem op_fa (T:TypeId) (x:Operand) (f:Nat):opA M E (.fieldAddr T x f) S h k=op2 (fo M.P T f) fun o=>faA (k S h) o (S.ev x):=by
  show rdA M (.fieldAddr T x f) S h (k S h)=_
  simp only[rdA]
  congr 1
theorem op_f (T:TypeId) (x:Operand) (f:Nat):opA M E (.field T x f) S h k=fA (k S h) (fpl M.P T f) (S.ev x):=by
  show rdA M (.field T x f) S h (k S h)=_
  simp only[rdA]
  generalize S.ev x=v
  cases v<;>first |rfl |(rename_i v;cases v<;>rfl)
theorem op_ia (T:TypeId) (x y:Operand):opA M E (.indexAddr T x y) S h k=op2 (esz M.P T) fun e=>iaA M T S h k e (S.ev x) (S.ev y):=by
  show rdA M (.indexAddr T x y) S h (k S h)=_
  simp only[rdA]
  congr 1
theorem op_i (T:TypeId) (x y:Operand):opA M E (.index T x y) S h k=iA M T S h k (S.ev x) (S.ev y):=by
  show rdA M (.index T x y) S h (k S h)=_
  simp only[rdA]
  generalize S.ev x=v
  generalize S.ev y=w
  cases v<;>first |rfl |skip
theorem op_ex (x:Operand) (i:Nat):opA M E (.extract x i) S h k=extA (k S h) i (S.ev x):=by
  show rdA M (.extract x i) S h (k S h)=_
  simp only[rdA]
  generalize S.ev x=v
  cases v<;>first |rfl |(rename_i v;cases v<;>rfl)
theorem op_sl (T:TypeId) (x:Operand) (l u:Option Operand):opA M E (.slice T x l u none) S h k=slcA M T (k S h) (l.map S.ev) (u.map S.ev) (S.ev x):=by
  show rdA M (.slice T x l u none) S h (k S h)=_
  simp only[rdA]
  generalize S.ev x=v
  cases v<;>first |rfl |(rename_i v;cases v<;>rfl)
theorem op_build (T:TypeId) (p:Array (Nat×Operand)):opA M E (.build T p) S h k=op2 (buildA M.P T (p.toList.map fun p=>(p.1,S.ev p.2))) fun cs=>k S h (.v (.agg cs.toArray)):=(rfl)
theorem op_mf (f:Fn) (x y:Array Operand):opA M E (.makeFunc f x y) S h k=op2 (vals (x.toList.map S.ev)) fun fs=>op2 (vals (y.toList.map S.ev)) fun cs=>k S h (.v (.func f fs.toArray cs.toArray)):=(rfl)
theorem op_mi (T:TypeId) (x:Operand):opA M E (.makeInterface T x) S h k=miA M T (k S h) (S.ev x):=by
  show rdA M (.makeInterface T x) S h (k S h)=_
  simp only[rdA]
  generalize S.ev x=v
  cases v<;>rfl
theorem op_len (x:Operand) (T:TypeId):opA M E (.call {callee:=.builtin .len,args:=#[x],argTypes:=#[T]}) S h k=op2 (lenA M.P T (S.ev x)) fun v=>k S h (.v v):=(rfl)
theorem op_min (x y:Operand) (t:Array TypeId):opA M E (.call {callee:=.builtin .min,args:=#[x,y],argTypes:=t}) S h k=minA (k S h) (S.ev x) (S.ev y):=by
  show rdA M (.call {callee:=.builtin .min,args:=#[x,y],argTypes:=t}) S h (k S h)=_
  simp only[rdA]
  generalize S.ev x=v
  generalize S.ev y=w
  cases v<;>first |rfl |skip
theorem op_max (x y:Operand) (t:Array TypeId):opA M E (.call {callee:=.builtin .max,args:=#[x,y],argTypes:=t}) S h k=maxA (k S h) (S.ev x) (S.ev y):=by
  show rdA M (.call {callee:=.builtin .max,args:=#[x,y],argTypes:=t}) S h (k S h)=_
  simp only[rdA]
  generalize S.ev x=v
  generalize S.ev y=w
  cases v<;>first |rfl |skip
theorem op_app (x y:Operand) (T U:TypeId):opA M E (.call {callee:=.builtin .append,args:=#[x,y],argTypes:=#[T,U]}) S h k=(uk M.P U=.slice∧op2 (mk1 M.P T) fun(_,b)=>appX S h b k (S.ev x) (S.ev y)):=by
  rfl
theorem op_cop (x y:Operand) (T U:TypeId):opA M E (.call {callee:=.builtin .copy,args:=#[x,y],argTypes:=#[T,U]}) S h k=op2 (mk1 M.P T) fun _=>copB S h k (S.ev x) (S.ev y):=by
  show(op2 (mk1 M.P T) fun _=>copA S h (S.ev x) (S.ev y) k)=_
  unfold copB copA
  rfl
theorem op_alloc (T:TypeId):opA M E (.alloc T) S h k=op2 (zer M.P T) fun z=>k (S.push z) h (.p S.bx.length 0):=(rfl)
theorem op_box (T:TypeId) (x:Operand):opA M E (.box T x) S h k=boxA S h k (S.ev x):=by
  show imA M (.box T x) S h E k=_
  simp only[imA]
  generalize S.ev x=v
  cases v<;>rfl
theorem op_store (T:TypeId) (x y:Operand):opA M E (.store T x y) S h k=stoA M T S h k (S.ev x) (S.ev y):=by
  show imA M (.store T x y) S h E k=_
  simp only[imA]
  generalize S.ev x=v
  generalize S.ev y=w
  cases v<;>cases w<;>rfl
theorem op_ms (T:TypeId) (x y:Operand):opA M E (.makeSlice T x y) S h k=mksA M T S h k (S.ev x) (S.ev y):=by
  show imA M (.makeSlice T x y) S h E k=_
  simp only[imA]
  generalize S.ev x=v
  generalize S.ev y=w
  cases v<;>first |rfl |skip
theorem op_bs (T:TypeId) (n:Nat) (p:Array (Nat×Operand)):opA M E (.buildSlice T n p) S h k=op3 (mk1 M.P T) (fun(z,_)=>n≤2^24∧op2 (fillA (fun i=>some (i,none)) (List.replicate n z) (p.toList.map fun p=>(p.1,S.ev p.2))) fun cs=>k (S.push cs) h (.s S.bx.length 0 n n))
    (op2 (mkB M.P T) fun(z,t)=>n*partSize t≤2^24∧1≤n∧op2 (fillA (fun i=>some (i*partSize t,t)) (repC z n) (p.toList.map fun p=>(p.1,S.ev p.2))) fun cs=>k (S.push cs) h (.s S.bx.length 0 n n)):=by
  show imA M (.buildSlice T n p) S h E k=_
  simp only[imA]
  generalize mk1 M.P T=o
  cases o<;>rfl
theorem op_panic (x:Operand):opA M E (.panic x) S h k=panA E h (S.ev x):=by
  show imA M (.panic x) S h E k=_
  simp only[imA]
  generalize S.ev x=v
  cases v<;>first |rfl |(rename_i v;cases v<;>rfl)
theorem ld1_of {a:Addr} {v:Value} (hv:h.at a=some v) (hk:k S h (.v v)):ld1 S h a k:=⟨v,hv,hk⟩
theorem ldm_of {a:Addr} {m:Nat} (cs:List Value) (hl:cs.length=m) (hv:∀j v,cs[j]?=some v→h.at (a.add j)=some v) (hk:k S h (.v (.agg cs.toArray))):ldm S h a m k:=⟨cs,hl,hv,hk⟩
theorem ixP_some {ad:Addr} {j:Int} {len e:Nat}:ixP S h (some ad) j len e k=(0≤j∧j < len∧k S h (.v (.pointer (some (ad.add (j.toNat*e)))))):=propext ⟨fun⟨_,e,k⟩=>by cases e;exact k,fun k=>⟨_,rfl,k⟩⟩
theorem ble_t {a b:Nat} (h:a≤b):Nat.ble a b=true:=by simpa using h
theorem ble_f {a b:Nat} (h:b < a):Nat.ble a b=false:=by
  cases e:Nat.ble a b with
  |false=>rfl
  |true=>have:=Nat.le_of_ble_eq_true e;omega
theorem cls_call (fo:Operand) (x:Array Operand) (t:Array TypeId):cls (.call {callee:=.value fo,args:=x,argTypes:=t})=cls (.call {callee:=.value fo,args:=#[],argTypes:=#[]})∧(cls (.call {callee:=.value fo,args:=x,argTypes:=t}) == 0)=false:=by
  cases fo with
  |func f=>simp only[cls];split<;>simp
  |_=>exact⟨rfl,rfl⟩
theorem op_call (fo:Operand) (x:Array Operand) (t:Array TypeId):opA M E (.call {callee:=.value fo,args:=x,argTypes:=t}) S h k=calA M E fo (x.toList.map S.ev) (S.ev fo) S h k:=by
  obtain⟨h1,h2⟩:=cls_call fo x t
  rw[show opA M E (.call {callee:=.value fo,args:=x,argTypes:=t}) S h k=imA M (.call {callee:=.value fo,args:=x,argTypes:=t}) S h E k from by unfold opA;rw[h2];rfl]
  simp only[imA,h1]
  split
  · rename_i f first cap hf
    rw[hf]
    simp only[calA]
    split
    · rename_i vs hv
      rw[hv];rfl
    · rename_i hv
      rw[hv];rfl
  · rename_i hf
    unfold calA
    split
    · rename_i f first cap hx
      exact(hf _ _ _ hx).elim
    · rfl
end
attribute [go_sem] ixP_some ble_t ble_f op_move op_assign op_pick op_load op_bin op_un op_conv op_fa op_f op_ia op_i op_ex op_sl op_build op_mf op_mi op_len op_min op_max op_app op_cop op_alloc op_box op_store op_ms op_bs op_panic op_call
def dstA (all:List Oper) (j:Nat):Option Nat:=match nth all j with
  |some o=>o.dst
  |none=>none
def gvB (want:Bool):AV→Option Bool
  |.v (.bool b)=>some (b == want)
  |.v (.tuple _)=>some false
  |_=>none
def gvT (S:AS) (want:Bool):Option Nat→Option Bool
  |some t=>gvB want (lk S.sl t)
  |none=>none
def gst (M:Mach) (E:List PanicEntry→PH→Prop) (d:Option Nat) (op:Op):Option Bool→AS→PH→(AS→PH→AV→Prop)→Prop
  |some true,S,h,k=>opA M E op S h k
  |some false,S,h,k=>k S h (.v undef)
  |none,_,_,_=>False
def AS.putC (S:AS) (d:Option Nat) (x:AV):AS:=S.put d x
theorem putC_n (S:AS) (x:AV):S.putC none x=S:=rfl
theorem putC_s (sl:List (Nat×AV)) (bx:List (List Value)) (d:Nat) (x:AV):AS.putC ⟨sl,bx⟩ (some d) x=⟨(d,x) :: sl,bx⟩:=rfl
attribute [go_sem] putC_n putC_s
def walkO (M:Mach) (E:List PanicEntry→PH→Prop) (all:List Oper):List Oper→(AS→PH→Prop)→AS→PH→Prop
  |[],K,S,h=>K S h
  |o :: l,K,S,h=>gst M E o.dst o.op (match o.guard with |none=>some true |some (j,want)=>gvT S want (dstA all j)) S h (fun S' h' x=>walkO M E all l K (S'.putC o.dst x) h')
section
variable {M:Mach} {E:List PanicEntry→PH→Prop} {all l:List Oper} {K:AS→PH→Prop} {sl:List (Nat×AV)} {bx:List (List Value)} {h:PH}
theorem wo_nil:walkO M E all [] K ⟨sl,bx⟩ h=K ⟨sl,bx⟩ h:=(rfl)
theorem wo_o (d:Option Nat) (op:Op) (T:TypeId) (p:String) (a:Array Edge):walkO M E all (⟨d,op,T,p,a,none⟩ :: l) K ⟨sl,bx⟩ h=opA M E op ⟨sl,bx⟩ h (fun S' h' x=>walkO M E all l K (S'.putC d x) h'):=(rfl)
theorem wo_g (d:Option Nat) (op:Op) (T:TypeId) (p:String) (a:Array Edge) (j:Nat) (w:Bool):walkO M E all (⟨d,op,T,p,a,some (j,w)⟩ :: l) K ⟨sl,bx⟩ h=gst M E d op (gvT ⟨sl,bx⟩ w (dstA all j)) ⟨sl,bx⟩ h (fun S' h' x=>walkO M E all l K (S'.putC d x) h'):=(rfl)
theorem nth_o (o:Oper) (l:List Oper):nth (o :: l) 0=some o:=rfl
theorem nth_s (o:Oper) (l:List Oper) (i:Nat):nth (o :: l) (i+1)=nth l i:=rfl
end
attribute [go_sem] wo_nil wo_o wo_g nth_o nth_s pickO
theorem walkO_eq {M :Mach} {E:List PanicEntry→PH→Prop} {K:AS→PH→Prop} {n:Nat} {ops:Array Oper}:∀(pl:List Nat) (gx:List GX),prep n ops (pl.map .o)=some gx→walkO M E ops.toList (pickO ops.toList pl) K=walk M E gx K:=by
  intro pl
  induction pl with
  | nil=>
    intro gx hp
    cases hp
    funext S h
    exact propext ⟨fun k=>wk0 k,fun k=>by unfold walk at k;exact k⟩
  | cons i pl ih=>
    intro gx hp
    simp only[List.map_cons,prep] at hp
    cases ho:nth ops.toList i with
    |none=>rw[ho] at hp;cases hp
    | some o=>
      rw[ho] at hp
      dsimp only at hp
      cases hg:gOf ops o with
      |none=>rw[hg] at hp;cases hp
      | some gd =>
        rw[hg] at hp
        dsimp only at hp
        cases hd:(o.dst.all (Nat.blt · n)) with
        |false=>rw[hd] at hp;cases hp
        | true=>
          rw[hd] at hp
          cases hq:prep n ops (pl.map .o) with
          |none=>rw[hq] at hp;cases hp
          | some l' =>
            rw[hq] at hp;cases hp
            have e:=ih l' hq
            funext S h
            simp only[pickO,ho,walkO,e]
            have st:opA M E o.op S h (fun S' h' x=>walk M E l' K (S'.putC o.dst x) h')=step1 M E ⟨o.dst,o.op,gd⟩ (walk M E l' K) S h:=rfl
            unfold gOf at hg
            split at hg
            · rename_i hn
              cases hg
              rw[hn]
              simp only[gst,st]
              exact propext ⟨fun k=>by rw[walk.eq_def];exact k,fun k=>by rw[walk.eq_def] at k;exact k⟩
            · rename_i j want hn
              split at hg
              · rename_i t ht
                cases hg
                rw[hn]
                have hda:dstA ops.toList j=some t:=by
                  unfold dstA
                  cases hx:nth ops.toList j with
                  |none=>rw[hx] at ht;cases ht
                  |some o'=>rw[hx] at ht;exact ht
                simp only[hda,gvT]
                refine propext ⟨fun k=>?_,fun k=>?_⟩
                · rw[walk.eq_def]
                  dsimp only
                  cases hl:lk S.sl t with
                  |top=>rw[hl] at k;exact k.elim
                  |p i off=>rw[hl] at k;exact k.elim
                  |s i off len cap=>rw[hl] at k;exact k.elim
                  | v x=>
                    rw[hl] at k
                    cases x<;>first |exact k.elim |exact k |skip
                    rename_i b
                    simp only[gvB] at k
                    dsimp only
                    cases b<;>cases want<;>first |exact⟨fun _=>k,fun e=>(nomatch e)⟩ |exact⟨fun e=>(nomatch e),fun _=>k⟩
                · rw[walk.eq_def] at k
                  dsimp only at k
                  cases hl:lk S.sl t with
                  |top=>rw[hl] at k;exact k.elim
                  |p i off=>rw[hl] at k;exact k.elim
                  |s i off len cap=>rw[hl] at k;exact k.elim
                  | v x=>
                    rw[hl] at k
                    cases x<;>first |exact k.elim |exact k |skip
                    rename_i b
                    dsimp only at k
                    simp only[gvB]
                    cases b<;>cases want<;>first |exact k.1 rfl |exact k.2 rfl
              · cases hg
def walkZ (M:Mach) (E:List PanicEntry→PH→Prop) (all:List Oper) (K:AS→PH→Prop):TT→AS→PH→Prop
  |.d=>K
  |.s l t=>walkO M E all (pickO all l) (walkZ M E all K t)
  |.a i t u=>fun S h=>walkO M E all (pickO all [i]) (walkZ M E all K t) S h∧walkZ M E all K u S h
  |.p i t=>fun S h=>pubA S h i (walkZ M E all K t)
  |.n=>fun _ _=>True
section
variable {M:Mach} {E:List PanicEntry→PH→Prop} {all l:List Oper} {K:AS→PH→Prop} {sl:List (Nat×AV)} {bx:List (List Value)} {h:PH}
theorem wz_d:walkZ M E all K .d ⟨sl,bx⟩ h=K ⟨sl,bx⟩ h:=(rfl)
theorem wz_s (l:List Nat) (t:TT):walkZ M E all K (.s l t) ⟨sl,bx⟩ h=walkO M E all (pickO all l) (walkZ M E all K t) ⟨sl,bx⟩ h:=(rfl)
theorem wz_a (i:Nat) (t u:TT):walkZ M E all K (.a i t u) ⟨sl,bx⟩ h=(walkO M E all (pickO all [i]) (walkZ M E all K t) ⟨sl,bx⟩ h∧walkZ M E all K u ⟨sl,bx⟩ h):=(rfl)
theorem wz_p (i:Nat) (t:TT):walkZ M E all K (.p i t) ⟨sl,bx⟩ h=(i < bx.length∧∀b h',Step h h'→((⟨sl,bx⟩:AS).box i≠[]→h' b=some ((⟨sl,bx⟩:AS).box i).toArray)→walkZ M E all K t ((⟨sl,bx⟩:AS).pub i b) h'):=(rfl)
theorem wz_n:walkZ M E all K .n ⟨sl,bx⟩ h=True:=(rfl)
end
attribute [go_sem] wz_d wz_s wz_a wz_p wz_n
theorem walkZ_eq {M:Mach} {E:List PanicEntry→PH→Prop} {K:AS→PH→Prop} {n:Nat} {ops:Array Oper}:∀(t:TT) (g:GT),prepT n ops t.it=some g→walkZ M E ops.toList K t=walkT M E K g:=by
  intro t
  induction t with
  |d=>intro g h;cases h;rfl
  |n=>intro g h;cases h;rfl
  | s l t ih=>
    intro g h
    simp only[TT.it,prepT] at h
    split at h
    · rename_i l' t' h1 h2
      cases h
      simp only[walkZ,ih _ h2]
      rw[walkO_eq _ _ h1]
      rfl
    · cases h
  | p i t ih=>
    intro g h
    simp only[TT.it,prepT,prep] at h
    split at h
    · rename_i l' t' h1 h2
      cases h1
      cases h
      simp only[walkZ,ih _ h2]
      funext S h
      refine propext ⟨fun k=>?_,fun k=>?_⟩
      · exact wt_seg (wkp ⟨k.1,fun b h' s e=>wk0 (k.2 b h' s e)⟩)
      · have k:walk M E [.p i] (walkT M E K t') S h:=k
        rw[walk.eq_def] at k
        exact⟨k.1,fun b h' s e=>by have:=k.2 b h' s e;rw[walk.eq_def] at this;exact this⟩
    · cases h
  | a i t u iht ihu=>
    intro g h
    simp only[TT.it,prepT] at h
    split at h
    · rename_i g' t' u' h1 h2 h3
      cases h
      simp only[walkZ,iht _ h2,ihu _ h3]
      rw[walkO_eq (n:=n) (ops:=ops) [i] [g'] h1]
      rfl
    · cases h
theorem walkZ_pl {M:Mach} {E:List PanicEntry→PH→Prop} {K:AS→PH→Prop} {n:Nat} {ops:Array Oper}:∀(t:TT) (pl:List PL) (l:List GX),t.pl=some pl→prep n ops pl=some l→walkZ M E ops.toList K t=walk M E l K:=by
  intro t
  induction t with
  |d=>intro pl l h hp;cases h;cases hp;funext S h';exact propext ⟨fun k=>wk0 k,fun k=>by rw[walk.eq_def] at k;exact k⟩
  |n=>intro pl l h;cases h
  |a i t u=>intro pl l h;cases h
  | p i t ih=>
    intro pl l h hp
    simp only[TT.pl,Option.map_eq_some_iff] at h
    obtain⟨pl',h1,rfl⟩:=h
    simp only[prep] at hp
    cases hq:prep n ops pl' with
    |none=>rw[hq] at hp;cases hp
    | some l'=>
      rw[hq] at hp;cases hp
      funext S h'
      have e:walkZ M E ops.toList K (.p i t) S h'=pubA S h' i (walk M E l' K):=by rw[←ih _ _ h1 hq];rfl
      rw[e]
      exact propext ⟨fun k=>wkp k,fun k=>by rw[walk.eq_def] at k;exact k⟩
  | s x t ih=>
    intro pl l h hp
    simp only[TT.pl,Option.map_eq_some_iff] at h
    obtain⟨pl',h1,rfl⟩:=h
    have key:∀(x:List Nat) (l:List GX),prep n ops (x.map .o ++pl')=some l→∃l1 l2,prep n ops (x.map .o)=some l1∧prep n ops pl'=some l2∧∀K,walk M E l K=walk M E l1 (walk M E l2 K):=by
      intro x
      induction x with
      |nil=>intro l e;exact⟨[],l,rfl,e,fun K=>by funext S h;exact propext ⟨fun k=>wk0 k,fun k=>by rw[walk.eq_def] at k;exact k⟩⟩
      | cons i x ihx=>
        intro l e
        simp only[List.map_cons,List.cons_append,prep] at e ⊢
        cases ho:nth ops.toList i with
        |none=>rw[ho] at e;cases e
        | some o=>
          rw[ho] at e
          dsimp only at e ⊢
          cases hg:gOf ops o with
          |none=>rw[hg] at e;cases e
          | some gd=>
            rw[hg] at e
            dsimp only at e ⊢
            cases hd:(o.dst.all (Nat.blt · n)) with
            |false=>rw[hd] at e;cases e
            | true=>
              rw[hd] at e
              cases hq:prep n ops (x.map .o ++pl') with
              |none=>rw[hq] at e;cases e
              | some l'=>
                rw[hq] at e;cases e
                obtain⟨l1,l2,e1,e2,e3⟩:=ihx l' hq
                refine⟨.o ⟨o.dst,o.op,gd⟩ :: l1,l2,by rw[e1];rfl,e2,fun K=>?_⟩
                funext S h
                rw[walk.eq_def,walk.eq_def M E (_ :: l1)]
                simp only[e3]
    obtain⟨l1,l2,e1,e2,e3⟩:=key x l hp
    rw[e3,←ih _ _ h1 e2,←walkO_eq _ _ e1]
    rfl
theorem pick_range (all:List Oper):pickO all (List.range all.length)=all:=by
  have key:∀(l pre:List Oper),pre ++l=all→pickO all (List.range' pre.length l.length)=l:=by
    intro l
    induction l with
    |nil=>intro pre _;rfl
    | cons o l ih=>
      intro pre he
      have h1:nth all pre.length=some o:=by rw[nth_eq,←he];simp
      have h2:=ih (pre ++[o]) (by simpa using he)
      simp only[List.length_append,List.length_singleton] at h2
      simp only[List.length_cons,List.range'_succ,pickO,h1,h2]
  simpa[List.range_eq_range'] using key all [] rfl
end Go.Q
