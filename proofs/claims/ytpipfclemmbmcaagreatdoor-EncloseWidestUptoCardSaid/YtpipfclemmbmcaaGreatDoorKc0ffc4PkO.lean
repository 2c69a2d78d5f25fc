/-
  append to a row whose elements hold several cells, as the one such operation of its region, and what stands on it. Conditions: each theorem's own.
-/
import Derived.Test.YtpipfclemmbmcaaGreatDoorK32edc0PkC
import Derived.Test.YtpipfclemmbmcaaGreatDoorKa50d49PkG
import Derived.Test.YtpipfclemmbmcaaGreatDoorK8ea75dPkN
import Derived.Test.YtpipfclemmbmcaaGreatDoorK4b44ebPkI
set_option linter.unusedVariables false
set_option linter.unusedSimpArgs false
open Nat renaming reduceBEq→ξ,reduceAdd→ζ,mul_le_mul_right→ψ,le_refl→η,mul_le_mul→qAk,zero_le→qBh,lt_or_ge→qBj,one_mul→qBm
open Bool renaming and_eq_true→φ,false_eq_true→qAw
open List renaming length_append→qAp,all_eq_true→qBd
namespace Go.Q
open Go.RowKit (Below)
section
variable {M:Mach} {C:Ctx} {n:Nat} {S:AS} {h:PH} {β:Nat→Nat} {a:Act} {w:World} {Q:Exit→AS→PH→Prop} {E:List PanicEntry→PH→Prop}
def mkN (P:Program) (T:TypeId) (sz:Nat):Bool:=match P.underlying T with
 | some (.slice e)=>match P.info? e with
  | some i=>match i.zero with
   |some v=>i.size == sz && v.cells.size == sz && decide (1≤sz) && decide (1≤i.bytes) && decide (i.bytes≤2^20)
   |none=>false
  |none=>false
 |_=>false
theorem mkN_some {P:Program} {T:TypeId} {sz:Nat} (h:mkN P T sz=true):∃e i v,P.underlying T=some (.slice e)∧P.info? e=some i∧i.zero=some v∧i.size=sz∧v.cells.size=sz∧1≤sz∧1≤i.bytes∧i.bytes≤2^20:=by
 unfold mkN at h
 split at h
 ·rename_i e he
  split at h
  ·rename_i i hi
   split at h
   ·rename_i v hv
    simp only[φ,beq_iff_eq,decide_eq_true_eq] at h
    exact⟨e,i,v,he,hi,hv,h.1.1.1.1,h.1.1.1.2,h.1.1.2,h.1.2,h.2⟩
   ·cases h
  ·cases h
 ·cases h
def appN (sz:Nat) (S:AS) (h:PH) (x y:AV) (k:AS→PH→AV→Prop):Prop:=match y with
 | .s j off m _=>off+m*sz≤(S.box j).length∧1≤m∧(((S.box j).drop off).take (m*sz)).all Value.oneCell'=true∧match x with
  |.v (.slice none 0 0)=>m≤2^26∧∀(cap:Nat) (junk:List Value),m≤cap→m*sz+junk.length=cap*sz→k (S.push (((S.box j).drop off).take (m*sz) ++junk)) h (.s S.bx.length 0 m cap)
  |.s i off' len cap=>off'=0∧len≤cap∧1≤cap∧cap*sz=(S.box i).length∧len+m≤2^26∧∀(cap':Nat) (junk:List Value),len+m≤cap'→(len+m)*sz+junk.length=cap'*sz→
    k ((S.setBox i []).push ((S.box i).take (len*sz) ++((S.box j).drop off).take (m*sz) ++junk)) h (.s S.bx.length 0 (len+m) cap')
  |_=>False
 |_=>False
theorem im_appN (g:G M C n S h β a w) {o:Oper} (hd:∀d,o.dst=some d→d < n) {x y:Operand} {T U:TypeId} {sz:Nat} (ho:o.op=.call {callee:=.builtin .append,args:=#[x,y],argTypes:=#[T,U]})
  (hU:uk M.P U=.slice) (hz:mkN M.P T sz=true) {k:AS→PH→AV→Prop} (hk:appN sz S h (S.ev x) (S.ev y) k):ImOk M C n a w o E k:=by
 obtain⟨e,i,z,hE,hi,hzero,hs,hzc,h1,hb1,hb2⟩:=mkN_some hz
 obtain⟨e',hE'⟩:=oA hU
 unfold appN at hk
 split at hk
 case h_2=>exact hk.elim
 rename_i j off m mc hy
 obtain⟨hoff,hm1,hall,hk⟩:=hk
 have hj:j < S.bx.length:=g.wf_ev (by rw[hy];rfl)
 have hyv:=g.ev_s hy
 generalize hN:((S.box j).drop off).take (m*sz)=news at hall hk
 have hl:news.length=m*sz:=by subst hN;simp;omega
 have hsrc:∀w',G M C n S h β a w'→(Builtin.firstCells sz m (.slice (some ⟨β j,off,none⟩) m mc)).run M.P w'=.ok news.toArray w':=fun w' g'=>by
  simp only[Builtin.firstCells]
  have:=run_loadCells_list (P:=M.P) (w:=w') ⟨β j,off,none⟩ news (fun q v hq=>by
   rw[gF]
   refine g'.box_get hj ?_
   rw[←hN,List.getElem?_take] at hq
   split at hq
   ·rw[List.getElem?_drop] at hq;exact hq
   ·cases hq)
  rw[hl] at this
  exact this
 have hexec:∀v,a.eval x=v→execOp a.eval o=(do pure (.value (←Builtin.append_ #[T,U] o.type #[v,.slice (some ⟨β j,off,none⟩) m mc])):Sem Next):=by
  intro v hv
  subst hv
  simp[execOp,ho,resolve,invoke,builtin,hyv]
 have hgrown:∀(base:Option Addr) (len cap:Nat) (old:List Value) (S':AS),a.eval x=.slice base len cap→cap < len+m→len+m≤2^26→old.length=len*sz→
   (∀w',G M C n S h β a w'→(Builtin.firstCells sz len (.slice base len cap)).run M.P w'=.ok old.toArray w')→G M C n S' h β a w.drew→S'.bx.length=S.bx.length→
   (∀(cap':Nat) (junk:List Value),len+m≤cap'→(len+m)*sz+junk.length=cap'*sz→k (S'.push (old ++news ++junk)) h (.s S.bx.length 0 (len+m) cap'))→ImOk M C n a w o E k:=by
  intro base len cap old S' hx hlt hroom hol hold g1 hlen hk
  have gd:=g.below (gt w)
  have c1:¬(len+m≤cap):=by omega
  have c2:¬(((len+m:Nat):Int) > IntKind.i64.max∧(i.bytes=0)):=by omega
  have c3:¬(Builtin.nextslicecap (len+m) cap*i.bytes > 2^48):=by
   have:=qAk (next_le hlt) hb2
   omega
  have⟨q,hq⟩:∃q:Nat,(Builtin.append_ #[T,U] T #[.slice base len cap,.slice (some ⟨β j,off,none⟩) m mc]).run M.P w=.ok (.slice (some ⟨w.heap.size,0,none⟩) (len+m) (len+m+q)) (w.drew.alloc (.cells (old.toArray ++news.toArray ++Builtin.zeroCells z.cells q) e)):=by
   refine⟨w.tape w.drawn (.appendCap (len+m) cap e) % (2^63 - (len+m)),?_⟩
   simp only[Builtin.append_,Sem.run_bind,run_underlying hE,run_underlying hE',Result.andThen_ok,Sem.run_pure,sizeOf,typeInfo,run_program,hi,hs,Builtin.lenOf,
    List.getElem?_toArray,List.getElem?_cons_zero,List.getElem?_cons_succ,qAw,if_false,Bool.not_false,if_true,c1,false_or,c2,c3,run_choose,Question.forced,Question.cut,World.drew_eq,run_askRoom,hold _ gd,hsrc _ gd,
    zeroValue,hzero,Nat.add_sub_cancel_left,newRow,run_newObj,World.alloc_eq,World.size_drew]
  have hjl:(Builtin.zeroCells z.cells q).toList.length=q*sz:=by simp[Builtin.zeroCells,hzc]
  obtain⟨β',b1,b2,g'⟩:=g1.push (old ++news ++(Builtin.zeroCells z.cells q).toList) e
  refine .mk hd (v:=.slice (some ⟨w.heap.size,0,none⟩) (len+m) (len+m+q)) (x:=.s S.bx.length 0 (len+m) (len+m+q)) ?_ (.inr ((gt w).alloc (by rw[World.size_drew];exact η _) _)) (β':=β') (S':=S'.push (old ++news ++(Builtin.zeroCells z.cells q).toList)) (w':=w.drew.alloc (.cells (old ++news ++(Builtin.zeroCells z.cells q).toList).toArray e)) g' (.inr ?_) ?_ (hk _ _ (by omega) (by rw[hjl,←Nat.add_mul]))
  ·have hc:old.toArray ++news.toArray ++Builtin.zeroCells z.cells q=(old ++news ++(Builtin.zeroCells z.cells q).toList).toArray:=by simp
   rw[hc] at hq
   rw[hexec _ hx]
   have hty:∀(t:TypeId) (vs:Array Value),Builtin.append_ #[T,U] t vs=Builtin.append_ #[T,U] T vs:=fun _ _=>rfl
   simp only[Sem.run_bind,hty,hq,Result.andThen_ok,Sem.run_pure]
  ·simp only[cv,←hlen,b2,World.size_drew]
  ·intro i hi;cases hi;simp[AS.push,hlen]
 split at hk
 ·rename_i hx
  obtain⟨hroom,hk⟩:=hk
  refine hgrown none 0 0 [] S (g.ev_v hx) (by omega) (by omega) (by simp) (fun w' _=>by simp[Builtin.firstCells]) (g.below (gt w)) rfl (fun cap' junk c1 c2=>?_)
  rw[Nat.zero_add] at c1 c2 ⊢
  exact hk cap' junk c1 c2
 ·rename_i i' off' len cap hx
  obtain⟨rfl,hlc,hc1,hcap,hroom,hk⟩:=hk
  have hcls:cls o.op=2:=by
   rw[ho]
   cases x with
   |const c=>cases hx
   |_=>rfl
  have hi':i' < S.bx.length:=g.wf_ev (by rw[hx];rfl)
  have hget:S.bx[i']?=some (S.box i'):=by simp[AS.box,hi']
  have hlm:len*sz≤cap*sz:=ψ _ hlc
  by_cases hle:len+m≤cap
  ·have hne:S.box i'≠[]:=fun e0=>by
    rw[e0] at hcap
    have:=ψ sz hc1
    simp at hcap;omega
   have hlm2:=ψ sz hle
   rw[Nat.add_mul] at hlm2
   obtain⟨T',hw⟩:=(g.boxes i' _ hget hne).row
   obtain⟨w',h1',h2,h3⟩:=jd (P:=M.P) news (S.box i') (len*sz) 0 w hw (by omega) hall
   have hspl:(S.box i').take (len*sz) ++news ++(S.box i').drop (len*sz+m*sz)=spl (S.box i') (len*sz) news:=by
    rw[spl_eq _ _ _ (by omega),hl]
   have hkj:=hk cap ((S.box i').drop (len*sz+m*sz)) hle (by simp[Nat.add_mul];omega)
   rw[hspl] at hkj
   have g1:=g.setBox hget hne (cs':=spl (S.box i') (len*sz) news) (by rw[sm]) (by simpa using h2) h3
   obtain⟨β',b1,g'⟩:=g1.move (i:=i') (cs:=spl (S.box i') (len*sz) news) (by simp[AS.setBox,hi'])
   have hset:(S.setBox i' (spl (S.box i') (len*sz) news)).setBox i' []=S.setBox i' []:=by simp[AS.setBox]
   have hlen:(S.setBox i' (spl (S.box i') (len*sz) news)).bx.length=S.bx.length:=by simp[AS.setBox]
   rw[hset] at g'
   rw[hlen] at b1
   refine .mk hd (v:=.slice (some ⟨β i',0,none⟩) (len+m) cap) (x:=.s S.bx.length 0 (len+m) cap) (w':=w') ?_ (.inl hcls) g' (.inr (by simp[cv,b1])) (fun q hq=>by cases hq;simp[AS.push,AS.setBox]) hkj
   rw[hexec _ (g.ev_s hx)]
   have hst:(storeCells ((⟨β i',0,none⟩:Addr).add (len*sz)) news).run M.P w=.ok () w':=by simpa[gF] using h1'
   simp only[Builtin.append_,Sem.run_bind,run_underlying hE,run_underlying hE',Result.andThen_ok,Sem.run_pure,sizeOf,typeInfo,run_program,hi,hs,Builtin.lenOf,
    List.getElem?_toArray,List.getElem?_cons_zero,List.getElem?_cons_succ,qAw,if_false,Bool.not_false,if_true,hle,hsrc _ g,hst]
  ·refine hgrown (some ⟨β i',0,none⟩) len cap ((S.box i').take (len*sz)) (S.setBox i' []) (g.ev_s hx) (by omega) hroom (by simp;omega) (fun w' g'=>?_) ((g.below (gt w)).kill i') (by simp[AS.setBox]) hk
   simp only[Builtin.firstCells]
   have hl2:((S.box i').take (len*sz)).length=len*sz:=by simp;omega
   have:=run_loadCells_list (P:=M.P) (w:=w') ⟨β i',0,none⟩ ((S.box i').take (len*sz)) (fun j v hj=>by
    rw[gF]
    refine g'.box_get hi' ?_
    rw[List.getElem?_take] at hj
    split at hj
    ·simpa using hj
    ·cases hj)
   rw[hl2] at this
   exact this
 ·exact hk.elim
theorem RWc_tail {ops:Array Oper} {Q Q':Exit→Act→World→Prop} {r:List Nat} (hp:∀e a w,e≠.normal→Q' e a w→Q e a w) (hl:LetsOut Q'→LetsOut Q) (hn:∀a w,Q' .normal a w→RWc M.P ops Q r a w):∀(l:List Nat) (a:Act) (w:World),RWc M.P ops Q' l a w→RWc M.P ops Q (l ++r) a w:=by
 intro l
 induction l with
 |nil=>intro a w hq;exact hn a w hq
 | cons i l ih=>
  intro a w hq
  show RWc M.P ops Q (i :: (l ++r)) a w
  simp only[RWc] at hq ⊢
  split at hq
  ·exact hq
  ·rename_i o ho
   by_cases hw:Region.wanted o (yielded ops a.tmps)=true
   ·rw[if_pos hw] at hq ⊢
    by_cases hc:cls o.op=0
    ·rw[if_pos hc] at hq ⊢
     obtain⟨v,h1,h2⟩:=hq
     exact⟨v,h1,ih _ _ h2⟩
    ·rw[if_neg hc] at hq ⊢
     have hq:=nf (K':=fun a' w'=>(cls o.op=2∨Below w.heap.size w w')∧RWc M.P ops Q (l ++r) a' w') (fun a' w' h=>⟨h.1,ih _ _ h.2⟩) hq
     unfold Oper.wp at hq ⊢
     generalize(execOp a.eval o).run M.P w=r at hq
     cases r with
     | ok n w'=>
      cases n<;>simp only[Oper.upon] at hq ⊢<;>first
       |exact hq
       |exact Calls.mono hq (fun e w'' he=>by cases e<;>first |exact he |exact hp _ _ _ (by simp) he |exact hl he)
     |halt x w'=>cases x<;>simp only[Oper.upon] at hq ⊢<;>first |exact hq |exact hp _ _ _ (by simp) hq
   ·rw[if_neg hw] at hq ⊢
    exact ih _ _ hq
theorem RWc_app {ops:Array Oper} {l1 l2:List GX} {d:Nat} {x y:Operand} {T U V:TypeId} {ps:String} {ar:Array Edge} {sz:Nat} (pl1:List PL) (i:Nat) (pl2:List PL) (hi:nth ops.toList i=some ⟨some d,.call {callee:=.builtin .append,args:=#[x,y],argTypes:=#[T,U]},V,ps,ar,none⟩)
  (hU:uk M.P U=.slice) (hz:mkN M.P T sz=true) (hd:d < n) (h1:prep n ops pl1=some l1) (h2:prep n ops pl2=some l2)
  (hw:walk M E l1 (fun S h=>appN sz S h (S.ev x) (S.ev y) fun S h v=>walk M E l2 (fun S h=>Q .normal S h) (S.put (some d) v) h) S h) (g:G M C n S h β a w):RWc M.P ops (LQ M n C Q E) (order pl1 ++i :: order pl2) a w:=by
 refine RWc_tail (Q':=LQ M n C (qs (fun S h=>appN sz S h (S.ev x) (S.ev y) fun S h v=>walk M E l2 (fun S h=>Q .normal S h) (S.put (some d) v) h) Q) E) (fun e a w he hq=>?_) ?_ (fun a w hq=>?_) _ _ _ (fx pl1 l1 S h β a w h1 hw g)
 ·cases e with
  |normal=>exact(he rfl).elim
  |panic ch=>exact hq
  |outgrown=>exact hq
  |_=>exact hq
 ·unfold LetsOut
  exact fun h=>h
 ·obtain⟨S1,h1',β1,g1,hk⟩:=hq
  rw[Bp] at hi
  dsimp only[qs] at hk
  rw[jP hi (by simp only[cls];cases nilB _<;>decide),if_pos (nI rfl _)]
  have:=im_appN (E:=E) g1 (o:=⟨some d,.call {callee:=.builtin .append,args:=#[x,y],argTypes:=#[T,U]},V,ps,ar,none⟩) (fun k hk=>by cases hk;exact hd) rfl hU hz hk (LQ M n C Q E) (fun ch h' w' hf he=>⟨g1.defers,h',hf,he⟩)
  exact nf (fun a' w' ⟨h1,S',h',x,β',g',hk⟩=>⟨h1,fx pl2 l2 _ h' β' a' w' h2 hk g'⟩) this
theorem AWP_app {id:Nat} {ops:Array Oper} {l1 l2:List GX} {d:Nat} {x y:Operand} {T U V:TypeId} {ps:String} {ar:Array Edge} {sz:Nat} (pl1:List PL) (i:Nat) (pl2:List PL) (hi:nth ops.toList i=some ⟨some d,.call {callee:=.builtin .append,args:=#[x,y],argTypes:=#[T,U]},V,ps,ar,none⟩)
  (hU:uk M.P U=.slice) (hz:mkN M.P T sz=true) (hord:order pl1 ++i :: order pl2=List.range ops.size) (hd:d < n) (h1:prep n ops pl1=some l1) (h2:prep n ops pl2=some l2)
  (hw:walk M E l1 (fun S h=>appN sz S h (S.ev x) (S.ev y) fun S h v=>walk M E l2 (fun S h=>Q .normal S h) (S.put (some d) v) h) S h):AWP M n C (.region id ops false) Q E S h:=
 fun β a w g=>eK (by rw[←hord];exact RWc_app pl1 i pl2 hi hU hz hd h1 h2 hw g)
end
def RowOf {α:Type} (sz:Nat) (Q:List Value→α→Prop) (row:List Value) (l:List α):Prop:=l.length*sz≤row.length∧∀(i:Nat) (s:α),l[i]?=some s→Q ((row.drop (i*sz)).take sz) s
theorem RowOf.nil {α:Type} {sz:Nat} {Q:List Value→α→Prop} {row:List Value}:RowOf sz Q row []:=⟨by simp,fun i s h=>by simp at h⟩
theorem RowOf.mono {α:Type} {sz:Nat} {Q Q':List Value→α→Prop} {row:List Value} {l:List α} (h:RowOf sz Q row l) (k:∀cs s,Q cs s→Q' cs s):RowOf sz Q' row l:=⟨h.1,fun i s e=>k _ _ (h.2 i s e)⟩
theorem RowOf.app {α:Type} {sz:Nat} {Q:List Value→α→Prop} {row:List Value} {l:List α} (h:RowOf sz Q row l) {cs:List Value} {s:α} (hl:cs.length=sz) (q:Q cs s) (junk:List Value):RowOf sz Q (row.take (l.length*sz) ++cs ++junk) (l ++[s]):=by
 have h1:=h.1
 have e1:(row.take (l.length*sz)).length=l.length*sz:=by simp;omega
 refine⟨by simp[Nat.add_mul];omega,fun i t hi=>?_⟩
 rcases qBj i l.length with g |g
 ·rw[List.getElem?_append_left g] at hi
  have hm:(i+1)*sz≤l.length*sz:=ψ _ g
  rw[Nat.add_mul,qBm] at hm
  have:=h.2 i t hi
  rw[List.append_assoc,List.drop_append_of_le_length (by omega),List.take_append_of_le_length (by simp;omega),List.drop_take,List.take_take,Nat.min_eq_left (by omega)]
  exact this
 ·have:i < (l ++[s]).length:=(List.getElem?_eq_some_iff.1 hi).1
  simp only[qAp,List.length_singleton] at this
  obtain rfl:i=l.length:=by omega
  rw[List.getElem?_append_right (η _),Nat.sub_self] at hi
  cases hi
  rw[List.append_assoc,List.drop_append_of_le_length (by omega),List.drop_take,Nat.sub_self,List.take_zero,List.nil_append,←hl,List.take_append_of_le_length (η _),List.take_length]
  exact q
theorem RowOf.ld {α:Type} {sz:Nat} {Q:List Value→α→Prop} {row:List Value} {l:List α} (h:RowOf sz Q row l) {i:Nat} {s:α} (hi:l[i]?=some s):ldb (some sz) row (i*sz)=some (.agg ((row.drop (i*sz)).take sz).toArray):=by
 have h1:=h.1
 have g:i < l.length:=(List.getElem?_eq_some_iff.1 hi).1
 have hm:(i+1)*sz≤l.length*sz:=ψ _ g
 rw[Nat.add_mul,qBm] at hm
 show(bif Nat.ble (i*sz+sz) row.length then _ else _)=_
 rw[Nat.ble_eq_true_of_le (by omega)]
 rfl
theorem at_off {h:PH} {b:Nat} {cs:Array Value} (hb:h b=some cs) (n j:Nat):h.at (((⟨b,0,none⟩:Addr).add n).add j)=cs[n+j]?:=by
 have e:((⟨b,0,none⟩:Addr).add n).add j=⟨b,n+j,none⟩:=by
  unfold Addr.add
  split<;>split<;>simp_all
 rw[e]
 simp[PH.at,hb]
end Go.Q
namespace Go.Q
open Go.Proofs Go.RowKit
set_option maxRecDepth 100000
set_option maxHeartbeats 8000000
theorem out01:x01.fin (Out.prec 2 (.ok (x01.set.hull (2:Int).toNat)))=.ok (.i (some 0) (some 1)):=by
 have e:x01.set=.i (some 0) (some 1):=by kernel_rfl
 have b:x01.big=false:=by decide+kernel
 have e1:gdown 0 2=0:=by decide+kernel
 have e2:gup 1 2=1:=by decide+kernel
 have e3:decide (NS.le 2048 (NS.i (some 0) (some 1)))=true:=by decide
 unfold RI.fin Out.prec
 rw[b,e]
 simp[NS.hull,bad,Out.fin,e1,e2,e3]
theorem out02:RI.fin2 (NS.i (some 0) (some 1)).ri (NS.i (some 0) (some 1)).ri (rnd 2 (NS.i (some 0) (some 1)).ri.set (NS.i (some 0) (some 1)).ri.set (.ok ((NS.i (some 0) (some 1)).ri.set.sum (NS.i (some 0) (some 1)).ri.set)))=.ok (.i (some 0) (some 2)):=by
 have l1:(NS.i (some 0) (some 1)).le 2048:=by decide
 have o1:(NS.i (some 0) (some 1)).ok:=by unfold NS.ok ordO;decide
 rw[NS.ri_set o1]
 unfold RI.fin2 rnd Out.prec
 rw[NS.ri_big l1]
 have e1:gdown (0+0) 2=0:=by decide+kernel
 have e2:gup (1+1) 2=2:=by decide+kernel
 have e3:decide (NS.le 2048 (NS.i (some 0) (some 2)))=true:=by decide
 simp[NS.sum,oadd,NS.void,bad,NS.hull,Out.fin,e1,e2,e3]
theorem Leaf_x {h0 h:PH} [Le h0 h] {v:Value} (hv:Boxv h0 v l01):Spec mach 133 #[exXv,v,.int .i64 2] h (fun r h'=>Ir h' r (.ok (.i (some 0) (some 1)))) NP:=by
 have kF:=fun {h} [Le h0 h]=>BFind_spec (h:=h) (s:=⟨#[120]⟩) hv
 unfold Fnd at kF
 rw[l01_fnd] at kF
 obtain⟨_,_,_,rfl⟩:=hv.sa
 unfold exXv
 refine Spec.go [] Tryz.func133 rfl rfl (by kernel_rfl) fun C _=>?_
 try simp(maxSteps:=999999) (disch:=omega) only[go_sem,ξ,ζ]
 refine caN (by exact kF) ?_;rintro v1 h1 s1 ⟨v2,x2,e2,rfl,q2⟩;obtain rfl:x2=(⟨#[120]⟩,x01):=(by cases e2;rfl);obtain⟨_,_,_,_,_,_,_,_,_,_,_,_,rfl,_,_⟩:=q2.sa
 try simp(maxSteps:=999999) (disch:=omega) only[go_sem,ξ,ζ]
 have kR:=fun {h} [Le h1 h]=>du (h:=h) (p:=2) q2
 rw[out01] at kR
 refine caN (by exact kR) ?_;rintro r h2 s2 r2;obtain⟨u,rfl,c2⟩:=r2;obtain⟨_,_,_,_,_,_,_,_,_,_,_,_,_,_,_,_,rfl,c3⟩:=c2.sa
 try simp(maxSteps:=999999) (disch:=omega) only[go_sem,ξ,ζ]
 exact⟨_,rfl,c3⟩
theorem Eval_x {h0 h:PH} [Le h0 h] {v:Value} (hv:Boxv h0 v l01):Spec mach 87 #[exXv,v,.int .i64 2] h (fun r h'=>Ir h' r (.ok (.i (some 0) (some 1)))) NP:=by
 have kL:=fun {h} [Le h0 h]=>Leaf_x (h:=h) hv
 obtain⟨_,_,_,rfl⟩:=hv.sa
 unfold exXv at kL ⊢
 refine Spec.go [] Tryz.func87 rfl rfl (by kernel_rfl) fun C _=>?_
 try simp(maxSteps:=999999) (disch:=omega) only[go_sem,ξ,ζ]
 refine caN (by exact kL) ?_;rintro r h2 s2 r2;obtain⟨u,rfl,c2⟩:=r2;obtain⟨_,_,_,_,_,_,_,_,_,_,_,_,_,_,_,_,rfl,c3⟩:=c2.sa
 try simp(maxSteps:=999999) (disch:=omega) only[go_sem,ξ,ζ]
 exact⟨_,rfl,c3⟩
theorem Kid_x {h0 h:PH} [Le h0 h] {v:Value} {b1 b2:Nat} (hv:Boxv h0 v l01) (hb1:h0 b1=some #[v]) (hb2:h0 b2=some #[.int .i64 2]):Spec mach 135 #[exXv,.pointer (some ⟨b1,0,none⟩),.pointer (some ⟨b2,0,none⟩)] h (fun r h'=>Ir h' r (.ok (.i (some 0) (some 1)))) NP:=by
 have kL:=fun {h} [Le h0 h]=>Eval_x (h:=h) hv
 have hb1:=(inferInstance:Le h0 h).sub _ _ hb1
 have hb2:=(inferInstance:Le h0 h).sub _ _ hb2
 obtain⟨_,_,_,rfl⟩:=hv.sa
 unfold exXv at kL ⊢
 refine Spec.go [] Tryz.func135 rfl rfl (by kernel_rfl) fun C _=>?_
 try simp(maxSteps:=999999) (disch:=omega) only[go_sem,ξ,ζ]
 refine aE (aK hb1) ?_
 try simp(maxSteps:=999999) (disch:=omega) only[go_sem,ξ,ζ]
 refine aE (aK hb2) ?_
 try simp(maxSteps:=999999) (disch:=omega) only[go_sem,ξ,ζ]
 refine caN (by exact kL) ?_;rintro r h2 s2 r2;obtain⟨u,rfl,c2⟩:=r2;obtain⟨_,_,_,_,_,_,_,_,_,_,_,_,_,_,_,_,rfl,c3⟩:=c2.sa
 try simp(maxSteps:=999999) (disch:=omega) only[go_sem,ξ,ζ]
 exact⟨_,rfl,c3⟩
def q01 (h:PH) (cs:List Value) (_:Unit):Prop:=Cv h (.agg cs.toArray) (.i (some 0) (some 1))
theorem Comb_a {h0 h:PH} [Le h0 h] {v:Value} {b b1 b2:Nat} (hb:kC b h0) (hv:Boxv h0 v l01) (hb1:h0 b1=some #[v]) (hb2:h0 b2=some #[.int .i64 2]):Spec mach 134 #[exAv b,.int .i64 2,.func (.func 135) #[] #[.pointer (some ⟨b1,0,none⟩),.pointer (some ⟨b2,0,none⟩)]] h (fun r h'=>Ir h' r (.ok (.i (some 0) (some 2)))) NP:=by
 have kK:=fun {h} [Le h0 h]=>Kid_x (h:=h) hv hb1 hb2
 unfold exAv exXv at*
 refine Spec.go [(10,.x),(22,.o [0,1,2,3,4,5,6,7,8,9,10,11])] Tryz.func134 rfl rfl (by kernel_rfl) fun C _=>?_
 try simp(maxSteps:=999999) (disch:=omega) only[go_sem,ξ,ζ]
 refine lpSl [(10,.x),(22,.o [0,1,2,3,4,5,6,7,8,9,10,11])] (fun x:Option (Nat×Nat×List Value)=>match x with |none=>⟨[(1,.v (.int .i64 2)),(2,.v (.func (.func 135) #[] #[.pointer (some ⟨b1,0,none⟩),.pointer (some ⟨b2,0,none⟩)])),(3,.p 0 0),(6,.p 1 0),(7,.v (.int .i64 0)),(22,.v (.slice (some ⟨b,0,none⟩) 2 2)),(23,.v (.int .i64 (2:Nat))),(8,.v (.slice none 0 0)),(24,.v (.int .i64 0))],[[.int .i64 5,.int .i64 0,.bool false,.slice none 0 0,.slice none 0 0,.string ⟨#[]⟩,.slice (some ⟨b,0,none⟩) 2 2],[.bool false,.slice none 0 0,.slice none 0 0,.bool false,.slice none 0 0,.slice none 0 0,.bool false,.bool false]]⟩ |some x=>⟨[(1,.v (.int .i64 2)),(2,.v (.func (.func 135) #[] #[.pointer (some ⟨b1,0,none⟩),.pointer (some ⟨b2,0,none⟩)])),(3,.p 0 0),(6,.p 1 0),(7,.v (.int .i64 0)),(22,.v (.slice (some ⟨b,0,none⟩) 2 2)),(23,.v (.int .i64 (2:Nat))),(8,.s 2 0 x.1 x.2.1),(24,.v (.int .i64 x.1))],[[.int .i64 5,.int .i64 0,.bool false,.slice none 0 0,.slice none 0 0,.string ⟨#[]⟩,.slice (some ⟨b,0,none⟩) 2 2],[.bool false,.slice none 0 0,.slice none 0 0,.bool false,.slice none 0 0,.slice none 0 0,.bool false,.bool false],x.2.2]⟩) (fun x h'=>Le h0 h'∧match x with |none=>True |some x=>1≤x.1∧x.1≤2∧x.1≤x.2.1∧x.2.1*8=x.2.2.length∧RowOf 8 (q01 h') x.2.2 (List.replicate x.1 ())) (fun x=>match x with |none=>2 |some x=>2 - x.1) none [0,1] ?_ ⟨inferInstance,trivial⟩ (by kernel_rfl) ?_
 ·try simp(maxSteps:=999999) (disch:=omega) only[go_sem,ξ,ζ]
  all_goals rfl
 rintro(_ |⟨i,cap,row⟩) h2 ⟨le2,hr⟩
 ·have hl:(0:Int) < ((2:Nat):Int):=by decide
  dsimp only
  try simp(maxSteps:=999999) (disch:=omega) only[go_sem,ξ,ζ,hl,decide_true]
  refine Exists.intro [_,_,_,_,_,_,_] (And.intro rfl (And.intro (fun j v hj=>le2.sub.at (kC_at hb 0 (by decide) j v hj)) ?_))
  try simp(maxSteps:=999999) (disch:=omega) only[go_sem,ξ,ζ]
  refine caN (by exact kK) ?_;rintro r h3 s3 r3;obtain⟨u,rfl,c3⟩:=r3;obtain⟨x1,x2,x3,x4,x5,x6,x7,x8,x9,x10,x11,x12,x13,x14,x15,x16,rfl,c3⟩:=c3.sa
  try simp(maxSteps:=999999) (disch:=omega) only[go_sem,ξ,ζ]
  refine AWP_app (sz:=8) [.o 0,.o 1,.o 2] 3 [.o 4] rfl (by kernel_rfl) (by kernel_rfl) (by rfl) (by decide) rfl rfl ?_
  try simp(maxSteps:=999999) (disch:=omega) only[go_sem,ξ,ζ,walk,appN,Nat.reduceMul]
  intro cap junk hc hj
  have hR:RowOf 8 (q01 h3) ([.bool x1,.slice x2 x3 x4,.slice x5 x6 x7,.bool x8,.slice x9 x10 x11,.slice x12 x13 x14,.bool x15,.bool x16] ++junk) (List.replicate 1 ()):=(RowOf.nil (sz:=8) (Q:=q01 h3) (row:=[])).app (cs:=[.bool x1,.slice x2 x3 x4,.slice x5 x6 x7,.bool x8,.slice x9 x10 x11,.slice x12 x13 x14,.bool x15,.bool x16]) (s:=()) rfl c3 junk
  dsimp only[lpS]
  refine⟨some (1,cap,[.bool x1,.slice x2 x3 x4,.slice x5 x6 x7,.bool x8,.slice x9 x10 x11,.slice x12 x13 x14,.bool x15,.bool x16] ++junk),[0,1,5],?_,⟨inferInstance,η 1,Nat.le_succ 1,hc,by simp;omega,hR⟩,η 2⟩
  try simp(maxSteps:=999999) (disch:=omega) only[go_sem,ξ,ζ]
  all_goals rfl
 ·obtain⟨g1,g2,g3,g4,g5⟩:=hr
  dsimp only at g1 g2 g3 g4 g5 ⊢
  by_cases hl:(i:Int) < ((2:Nat):Int)
  ·obtain rfl:i=1:=by omega
   try simp(maxSteps:=999999) (disch:=omega) only[go_sem,ξ,ζ,hl,decide_true]
   refine Exists.intro [_,_,_,_,_,_,_] (And.intro rfl (And.intro (fun j v hj=>le2.sub.at (kC_at hb 1 (by decide) j v hj)) ?_))
   try simp(maxSteps:=999999) (disch:=omega) only[go_sem,ξ,ζ]
   refine caN (by exact kK) ?_;rintro r h3 s3 r3;obtain⟨u,rfl,c3⟩:=r3;obtain⟨x1,x2,x3,x4,x5,x6,x7,x8,x9,x10,x11,x12,x13,x14,x15,x16,rfl,c3⟩:=c3.sa
   try simp(maxSteps:=999999) (disch:=omega) only[go_sem,ξ,ζ]
   refine AWP_app (sz:=8) [.o 0,.o 1,.o 2] 3 [.o 4] rfl (by kernel_rfl) (by kernel_rfl) (by rfl) (by decide) rfl rfl ?_
   try simp(maxSteps:=999999) (disch:=omega) only[go_sem,ξ,ζ,walk,appN,Nat.reduceMul]
   intro cap' junk hc hj
   have hR:RowOf 8 (q01 h3) (row.take 8 ++[.bool x1,.slice x2 x3 x4,.slice x5 x6 x7,.bool x8,.slice x9 x10 x11,.slice x12 x13 x14,.bool x15,.bool x16] ++junk) (List.replicate 2 ()):=(g5.mono fun cs s (k:Cv h2 _ _)=>(k.to:Cv h3 _ _)).app (cs:=[.bool x1,.slice x2 x3 x4,.slice x5 x6 x7,.bool x8,.slice x9 x10 x11,.slice x12 x13 x14,.bool x15,.bool x16]) (s:=()) rfl c3 junk
   dsimp only[lpS]
   refine⟨some (2,cap',row.take 8 ++[.bool x1,.slice x2 x3 x4,.slice x5 x6 x7,.bool x8,.slice x9 x10 x11,.slice x12 x13 x14,.bool x15,.bool x16] ++junk),[0,1,6],?_,⟨inferInstance,Nat.le_succ 1,η 2,hc,by simp;omega,hR⟩,η 1⟩
   try simp(maxSteps:=999999) (disch:=omega) only[go_sem,ξ,ζ]
   all_goals rfl
  ·obtain rfl:i=2:=by omega
   try simp(maxSteps:=999999) (disch:=omega) only[go_sem,ξ,ζ,hl,decide_false]
   have c1:Cv h2 (.agg (List.take 8 (List.drop (0*8) row)).toArray) (.i (some 0) (some 1)):=g5.2 0 () rfl
   have c2:Cv h2 (.agg (List.take 8 (List.drop (Int.toNat 1*8) row)).toArray) (.i (some 0) (some 1)):=g5.2 1 () rfl
   have kA:=fun {h} [Le h2 h]=>jf (h:=h) (p:=2) (c1.iv (by decide)) (c2.iv (by decide))
   rw[out02] at kA
   refine caN (by exact kA) ?_;rintro r h3 s3 r3;obtain⟨u,rfl,c3⟩:=r3;obtain⟨_,_,_,_,_,_,_,_,_,_,_,_,_,_,_,_,rfl,c3⟩:=c3.sa
   try simp(maxSteps:=999999) (disch:=omega) only[go_sem,ξ,ζ]
   exact⟨_,rfl,c3⟩
theorem Eval_a {h0 h:PH} [Le h0 h] {v:Value} {b:Nat} (hb:kC b h0) (hv:Boxv h0 v l01):Spec mach 87 #[exAv b,v,.int .i64 2] h (fun r h'=>Ir h' r (.ok (.i (some 0) (some 2)))) NP:=by
 have hv0:=hv
 obtain⟨_,_,_,rfl⟩:=hv.sa
 have hb0:=hb
 unfold exAv
 refine Spec.go [(3,.t (.s [0,1] (.p 1 (.p 2 (.s [2,3,4,5,6,7] .d)))))] Tryz.func87 rfl rfl (by kernel_rfl) fun C _=>?_
 try simp(maxSteps:=999999) (disch:=omega) only[go_sem,ξ,ζ]
 intro b1 h1 st1 hb1
 try simp(maxSteps:=999999) (disch:=omega) only[go_sem,ξ,ζ]
 intro b2 h2 st2 hb2
 try simp(maxSteps:=999999) (disch:=omega) only[go_sem,ξ,ζ]
 have hb1:=st2.sub _ _ (hb1 (by simp))
 have hb2:=hb2 (by simp)
 have kC2:=fun {h} [Le h2 h]=>Comb_a (h:=h) ((inferInstance:Le h0 h2).sub _ _ hb0) (hv0.to (h':=h2)) hb1 hb2
 unfold exAv at kC2
 refine caN (by exact kC2) ?_;rintro r h3 s3 r3;obtain⟨u,rfl,c3⟩:=r3;obtain⟨_,_,_,_,_,_,_,_,_,_,_,_,_,_,_,_,rfl,c3⟩:=c3.sa
 try simp(maxSteps:=999999) (disch:=omega) only[go_sem,ξ,ζ]
 exact⟨_,rfl,c3⟩
theorem Range_a {h0 h:PH} [Le h0 h] {v:Value} {b:Nat} (hb:kC b h0) (hv:Boxv h0 v l01):Spec mach 46 #[exAv b,v,.int .i64 2] h (fun r h'=>Ir h' r (.ok (.i (some 0) (some 2)))) NP:=by
 have kR:=fun {h} [Le h0 h]=>Ready_spec (h:=h) hb hv
 have kE:=fun {h} [Le h0 h]=>Eval_a (h:=h) hb hv
 obtain⟨_,_,_,rfl⟩:=hv.sa
 unfold exAv at*
 refine Spec.go [] Tryz.func46 rfl rfl (by kernel_rfl) fun C _=>?_
 try simp(maxSteps:=999999) (disch:=omega) only[go_sem,ξ,ζ]
 refine caN (by exact kR) ?_;rintro v1 h1 s1 rfl
 try simp(maxSteps:=999999) (disch:=omega) only[go_sem,ξ,ζ]
 refine caN (by exact kE) ?_;rintro r h3 s3 r3;obtain⟨u,rfl,c3⟩:=r3;obtain⟨_,_,_,_,_,_,_,_,_,_,_,_,_,_,_,_,rfl,c3⟩:=c3.sa
 try simp(maxSteps:=999999) (disch:=omega) only[go_sem,ξ,ζ]
 exact⟨_,rfl,c3⟩
theorem awake05_spec {h:PH}:Spec mach 15 #[] h (fun r _=>r=.bool true) NP:=by
 refine Spec.go [(3,.t (.p 1 (.s [0,1,2] (.p 2 (.s [3,4,5,6,7,8,9,10,11] .d)))))] Tryz.func15 rfl rfl (by kernel_rfl) fun C _=>?_
 try simp(maxSteps:=999999) (disch:=omega) only[go_sem,ξ,ζ]
 refine caN (by exact aF (n:=1) (by decide) (by decide)) ?_;rintro _ h1 _ f1;obtain⟨_,_,_,_,_,_,_,rfl,f1⟩:=f1.sa
 try simp(maxSteps:=999999) (disch:=omega) only[go_sem,ξ,ζ]
 refine caN (by exact cA f1 (by decide)) ?_;rintro _ h2 _ f2;obtain⟨v2_0,v2_1,v2_2,v2_3,v2_4,v2_5,v2_6,rfl,f2⟩:=f2.sa
 try simp(maxSteps:=999999) (disch:=omega) only[go_sem,ξ,ζ,Nat.reduceMul]
 intro bs h3 st3 hbs
 try simp(maxSteps:=999999) (disch:=omega) only[go_sem,ξ,ζ]
 have hbs:=hbs (by simp)
 intro bk h4 st4 hbk
 try simp(maxSteps:=999999) (disch:=omega) only[go_sem,ξ,ζ]
 have hbk:kC bk h4:=hbk (by simp)
 have hat:∀j v,([.string ⟨#[120]⟩,.bool false,.slice none 0 0,.slice none 0 0,.bool v2_0,.slice v2_1 v2_2 v2_3,.slice v2_4 v2_5 v2_6,.bool false,.bool false]:List Value)[j]?=some v→h4.at (((⟨bs,0,none⟩:Addr).add 0).add j)=some v:=fun j v hj=>by
  refine st4.sub.at ?_
  rw[at_off hbs,Nat.zero_add]
  simpa using hj
 have hv:Boxv h4 (.slice (some ⟨bs,0,none⟩) 1 1) l01:=⟨_,_,rfl,by decide,fun i s hi=>by
  have hi1:i < 1:=(List.getElem?_eq_some_iff.1 hi).1
  obtain rfl:i=0:=by omega
  cases hi
  refine⟨_,_,_,_,_,_,_,_,_,_,_,_,_,_,_,_,_,rfl,hat,?_⟩
  have c1:Cv h4 (.agg #[.bool false,.slice none 0 0,.slice none 0 0,.bool v2_0,.slice v2_1 v2_2 v2_3,.slice v2_4 v2_5 v2_6,.bool false,.bool false]) (.i (some 0) (some 1)):=⟨_,_,_,_,_,_,rfl,Cn.zero h4,by simpa using f2.to (h':=h4)⟩
  exact c1.iv (by decide)⟩
 have kR:=fun {h} [Le h4 h]=>Range_a (h:=h) hbk hv
 have kV:=fun {h} [Le h4 h]=>BValid_spec (h:=h) hv
 rw[l01_ok] at kV
 unfold exAv at kR
 refine caN (by exact kR) ?_;rintro r h5 s5 r5;obtain⟨u,rfl,c5⟩:=r5;obtain⟨d1,w1,w2,w3,w4,w5,w6,d2,w7,w8,w9,w10,w11,w12,rfl,p1,p2⟩:=c5.fl
 try simp(maxSteps:=999999) (disch:=omega) only[go_sem,ξ,ζ]
 have p1:Cn h5 _ 0:=p1
 have p2:Cn h5 _ 2:=p2
 obtain⟨sn,sd,e1,n1,n2⟩:=p1
 obtain⟨sn',sd',e2,n3,n4⟩:=p2
 simp only[Value.agg.injEq,Array.mk.injEq,List.cons.injEq,and_true] at e1 e2
 obtain⟨_,rfl,rfl⟩:=e1
 obtain⟨_,rfl,rfl⟩:=e2
 have:=E4 (by simpa using n1)
 subst this
 obtain⟨rfl,ad',rfl,t2⟩:=zC (n:=2) n3 (by decide) (by decide)
 have:=E4 (by simpa using n4)
 subst this
 try simp(maxSteps:=999999) (disch:=omega) only[go_sem,ξ,ζ]
 refine aE t2 ?_
 try simp(maxSteps:=999999) (disch:=omega) only[go_sem,ξ,ζ]
 refine caN (by exact kV) ?_;rintro v6 h6 s6 rfl
 try simp(maxSteps:=999999) (disch:=omega) only[go_sem,ξ,ζ]
 all_goals rfl
end Go.Q
namespace Go.Q
open Go.Proofs
set_option maxRecDepth 100000
set_option maxHeartbeats 8000000
theorem xq {h0 h:PH} [Le h0 h] {v w:Value} {x y z:Rat} {g:FuncId} (hx:Rv h0 v x) (hy:Rv h0 w y) (hg:∀{h0 h:PH} {a b:Value} [Le h0 h],Fr h0 a x→Fr h0 b y→Spec mach g #[a,b] h (fun v h'=>Fr h' v z) NP):Spec mach 91 #[v,w,.func (.func g) #[] #[]] h (fun r h'=>Nc h' r z) NP:=by
 have kX:=fun {h} [Le h0 h]=>kg (h:=h) hx
 have kY:=fun {h} [Le h0 h]=>kg (h:=h) hy
 obtain⟨_,_,_,_,_,_,_,rfl,_⟩:=hx.sa
 obtain⟨_,_,_,_,_,_,_,rfl,_⟩:=hy.sa
 refine Spec.go [] Tryz.func91 rfl rfl (by kernel_rfl) fun C _=>?_
 try simp(disch:=omega) only[go_sem,ξ,ζ]
 refine caN (by exact kX) ?_;rintro v1 h1 s1 ⟨f,rfl,hf⟩;obtain⟨_,_,_,_,_,_,_,rfl,hf⟩:=hf.sa
 try simp(disch:=omega) only[go_sem,ξ,ζ]
 refine caN (by exact kY) ?_;rintro v2 h2 s2 ⟨f',rfl,hf'⟩;obtain⟨_,_,_,_,_,_,_,rfl,hf'⟩:=hf'.sa
 try simp(disch:=omega) only[go_sem,ξ,ζ]
 refine caN (by exact hg (hf.to (h':=h2)) hf') ?_;rintro v3 h3 s3 hz
 try simp(disch:=omega) only[go_sem,ξ,ζ]
 refine caN (by exact qy hz) ?_;rintro v4 h4 s4 q4;obtain⟨_,_,_,_,_,_,_,_,rfl,w4⟩:=q4
 try simp(disch:=omega) only[go_sem,ξ,ζ]
 exact Nc.mk w4
theorem NumSub1 {h0 h:PH} [Le h0 h] {v w:Value} {x y:Rat} (hx:Fr h0 v x) (hy:Fr h0 w y) (sx:sz x≤2^36) (sy:sz y≤2^36):Spec mach 92 #[v,w] h (fun v h'=>Fr h' v (x+ -y)) NP:=by
 have kO:=fun {h} [Le h0 h]=>kf (h:=h) hy
 have kA:=fun {h h':PH} {u:Value} [Le h0 h] [Le h h'] (hu:Fr h u (-y))=>iV (h0:=h) (h:=h') (hx.to (h':=h)) hu sx (by rw[cz];exact sy)
 obtain⟨_,_,_,_,_,_,_,rfl,_⟩:=hx.sa
 obtain⟨_,_,_,_,_,_,_,rfl,_⟩:=hy.sa
 refine Spec.go [] Tryz.func92 rfl rfl (by kernel_rfl) fun C _=>?_
 try simp(disch:=omega) only[go_sem,ξ,ζ]
 refine caN (by exact kO) ?_;rintro v1 h1 s1 q1;obtain⟨_,_,_,_,_,_,_,rfl,q1⟩:=q1.sa
 try simp(disch:=omega) only[go_sem,ξ,ζ]
 refine caN (by exact kA q1) ?_;rintro v2 h2 s2 q2;obtain⟨_,_,_,_,_,_,_,rfl,q2⟩:=q2.sa
 try simp(disch:=omega) only[go_sem,ξ,ζ]
 exact q2
theorem wX {h0 h:PH} [Le h0 h] {v w:Value} {x y:Rat} (hx:Rv h0 v x) (hy:Rv h0 w y):Spec mach 48 #[v,w] h (fun r h'=>Nc h' r (x+ -y)) NP:=by
 have kT:=fun {h} [Le h0 h]=>xq (h:=h) (g:=92) hx hy (fun a b=>NumSub1 a b hx.up hy.up)
 obtain⟨_,_,_,_,_,_,_,rfl,_⟩:=hx.sa
 obtain⟨_,_,_,_,_,_,_,rfl,_⟩:=hy.sa
 refine Spec.go [] Tryz.func48 rfl rfl (by kernel_rfl) fun C _=>?_
 try simp(disch:=omega) only[go_sem,ξ,ζ]
 refine caN (by exact kT) ?_;rintro v1 h1 s1 q1;obtain⟨_,_,_,_,_,_,_,_,rfl,w1⟩:=q1
 try simp(disch:=omega) only[go_sem,ξ,ζ]
 exact Nc.mk w1
theorem gY {h0 h:PH} [Le h0 h] {v w:Value} {x y:Rat} (hx:Rv h0 v x) (hy:Rv h0 w y):Spec mach 49 #[v,w] h (fun r _=>r=.tuple #[.int .i64 (cmpQ x y),.int .i64 0]) NP:=by
 have kX:=fun {h} [Le h0 h]=>kg (h:=h) hx
 have kY:=fun {h} [Le h0 h]=>kg (h:=h) hy
 have sx:=hx.up
 have sy:=hy.up
 obtain⟨_,_,_,_,_,_,_,rfl,_⟩:=hx.sa
 obtain⟨_,_,_,_,_,_,_,rfl,_⟩:=hy.sa
 clear hx hy
 refine Spec.go [] Tryz.func49 rfl rfl (by kernel_rfl) fun C _=>?_
 try simp(disch:=omega) only[go_sem,ξ,ζ]
 refine caN (by exact kX) ?_;rintro v1 h1 s1 ⟨f,rfl,hf⟩;obtain⟨_,_,_,_,_,_,_,rfl,hf⟩:=hf.sa
 try simp(disch:=omega) only[go_sem,ξ,ζ]
 refine caN (by exact kY) ?_;rintro v2 h2 s2 ⟨f',rfl,hf'⟩;obtain⟨_,_,_,_,_,_,_,rfl,hf'⟩:=hf'.sa
 try simp(disch:=omega) only[go_sem,ξ,ζ]
 refine caN (by exact dq (hf.to (h':=h2)) hf' sx sy) ?_;rintro v3 h3 s3 rfl
 try simp(disch:=omega) only[go_sem,ξ,ζ]
theorem AnyLarge_no {h0 h:PH} [Le h0 h] {a:Option Addr} {m c:Nat} (k:∀i,i < m→∃ad b a1 m1 c1 a2 m2 c2 neg n d,a=some ad∧(∀j v,([.bool b,.slice a1 m1 c1,.slice a2 m2 c2]:List Value)[j]?=some v→h0.at ((ad.add (i*3)).add j)=some v)∧Rw h0 (.agg #[.bool b,.slice a1 m1 c1,.slice a2 m2 c2]) neg n d∧¬lg neg n d) (hm:m≤2^30):Spec mach 97 #[.slice a m c] h (fun r _=>r=.bool false) NP:=by
 refine Spec.go [] Tryz.func97 rfl rfl (by kernel_rfl) fun C _=>?_
 try simp(maxSteps:=999999) (disch:=omega) only[go_sem,ξ,ζ]
 refine lp [] (fun i:Nat=>⟨[(5,.v (.slice a m c)),(6,.v (.int .i64 m)),(7,.v (.int .i64 i))],[]⟩) (fun i h'=>Le h0 h'∧i≤m) (fun i=>m - i) 0 ?_ ⟨inferInstance,qBh _⟩ (by kernel_rfl) ?_
 ·try simp(maxSteps:=999999) (disch:=omega) only[go_sem,ξ,ζ]
  all_goals rfl
 rintro i h2 ⟨le2,hi⟩
 by_cases hlt:(i:Int) < m
 ·obtain⟨ad,b,a1,m1,c1,a2,m2,c2,neg,n,d,rfl,hat,hr,hg⟩:=k i (by omega)
  try simp(maxSteps:=999999) (disch:=omega) only[go_sem,ξ,ζ,hlt,decide_true]
  refine Exists.intro [_,_,_] (And.intro rfl (And.intro (fun j v hj=>le2.sub.at (hat j v hj)) ?_))
  try simp(maxSteps:=999999) (disch:=omega) only[go_sem,ξ,ζ]
  refine caN (by exact jJ (hr.to (h':=h2))) ?_;rintro v3 h3 s3 q3;rw[decide_eq_false hg] at q3;subst q3
  try simp(maxSteps:=999999) (disch:=omega) only[go_sem,ξ,ζ]
  dsimp only[lpE];refine⟨i+1,?_,⟨inferInstance,by omega⟩,by omega⟩
  ·try simp(maxSteps:=999999) (disch:=omega) only[go_sem,ξ,ζ]
   all_goals rfl
 ·try simp(maxSteps:=999999) (disch:=omega) only[go_sem,ξ,ζ,hlt,decide_false]
theorem RSub_spec {h0 h:PH} [Le h0 h] {v w:Value} {x y:Rat} (hv:Rv h0 v x) (hw:Rv h0 w y):Spec mach 50 #[v,w] h (fun r h'=>Nc h' r (x+ -y)) NP:=by
 have b1:=hv.sz
 have b2:=hw.sz
 obtain⟨u1,u2,u3,u4,u5,u6,u7,rfl,g1,n1,d1,r1,l1,rfl⟩:=hv.sa
 obtain⟨v1,v2,v3,v4,v5,v6,v7,rfl,g2,n2,d2,r2,l2,rfl⟩:=hw.sa
 refine Spec.go [(3,.o [0,2,1,3,4,5,6,7,8,9]),(1,.t (.s [0,1,2] (.p 3 (.s [3] .d))))] Tryz.func50 rfl rfl (by kernel_rfl) fun C _=>?_
 try simp(maxSteps:=999999) (disch:=omega) only[go_sem,ξ,ζ,Nat.reduceMul]
 intro b h1 st1 hb
 try simp(maxSteps:=999999) (disch:=omega) only[go_sem,ξ,ζ]
 have hb:=hb (by simp)
 have kA:=fun {h} [Le h1 h]=>AnyLarge_no (h0:=h1) (h:=h) (a:=some ⟨b,0,none⟩) (m:=2) (c:=2) (fun i hi=>by
  rcases(show i=0∨i=1 by omega) with rfl |rfl
  ·refine⟨_,u1,u2,u3,u4,u5,u6,u7,g1,n1,d1,rfl,fun j v hj=>?_,r1.to,l1⟩
   rw[at_off hb]
   have:j < 3:=(List.getElem?_eq_some_iff.1 hj).1
   rcases(show j=0∨j=1∨j=2 by omega) with rfl |rfl |rfl<;>exact hj
  ·refine⟨_,v1,v2,v3,v4,v5,v6,v7,g2,n2,d2,rfl,fun j v hj=>?_,r2.to,l2⟩
   rw[at_off hb]
   have:j < 3:=(List.getElem?_eq_some_iff.1 hj).1
   rcases(show j=0∨j=1∨j=2 by omega) with rfl |rfl |rfl<;>exact hj) (by decide)
 refine caN (by exact kA) ?_;rintro v9 h2 s2 rfl
 try simp(maxSteps:=999999) (disch:=omega) only[go_sem,ξ,ζ]
 refine caN (by exact bM (r1.to (h':=h2))) ?_;rintro _ h3 _ f3;obtain⟨_,_,_,_,_,_,_,rfl,f3⟩:=f3.sa
 try simp(maxSteps:=999999) (disch:=omega) only[go_sem,ξ,ζ]
 refine caN (by exact bM (r2.to (h':=h3))) ?_;rintro _ h4 _ f4;obtain⟨_,_,_,_,_,_,_,rfl,f4⟩:=f4.sa
 try simp(maxSteps:=999999) (disch:=omega) only[go_sem,ξ,ζ]
 refine caN (by exact cR (f3.to (h':=h4)) f4 (by omega) (by omega)) ?_;rintro _ h5 _ f5;obtain⟨_,_,_,_,_,_,_,rfl,f5⟩:=f5.sa
 try simp(maxSteps:=999999) (disch:=omega) only[go_sem,ξ,ζ]
 rw[Rat.sub_eq_add_neg] at f5
 by_cases hs:sz (qof g1 n1 d1+ -qof g2 n2 d2)≤2048
 ·refine caN (by exact Done_ok f5 hs) ?_;rintro v6 h6 s6 ⟨u,rfl,q3⟩;obtain⟨_,_,_,_,_,_,_,rfl,q3⟩:=q3.sa
  try simp(maxSteps:=999999) (disch:=omega) only[go_sem,ξ,ζ]
  exact Nc.mk (.inr ⟨rfl,hs,q3⟩)
 ·refine caN (by exact Done_no f5 hs) ?_;rintro v6 h6 s6 q3;unfold zRat at q3;subst q3
  try simp(maxSteps:=999999) (disch:=omega) only[go_sem,ξ,ζ]
  exact Nc.mk (.inl ⟨rfl,by omega⟩)
def wdQ (x:RI):Rat:=qof x.n2 x.a2 x.d2+ -qof x.n1 x.a1 x.d1
def unbd:List Sd1→Option ByteArray
 |[]=>none
 |x :: r=>bif x.2.l || x.2.u then some x.1 else unbd r
def wdF:List Sd1→ByteArray→Rat→Option ByteArray
 |[],n,_=>some n
 |x :: r,n,b=>bif decide (sz (wdQ x.2)≤2048) then (bif decide (b < wdQ x.2) then wdF r x.1 (wdQ x.2) else wdF r n b) else none
def wdR (l:List Sd1):Value:=bif okB l then (match unbd l with
  |some n=>.tuple #[.string n,.bool true,.int .i64 0]
  | none=>match wdF l ⟨#[]⟩ 0 with
   |some n=>.tuple #[.string n,.bool (!(n.toList == (⟨#[]⟩:ByteArray).toList)),.int .i64 0]
   |none=>.tuple #[.string ⟨#[]⟩,.bool false,.int .i64 1]) else .tuple #[.string ⟨#[]⟩,.bool false,.int .i64 50]
theorem cmp_lt {x y:Rat}:decide (cmpQ x y > 0)=decide (y < x):=by
 unfold cmpQ
 by_cases h:x < y
 ·rw[if_pos h];have:¬y < x:=by grind
  simp[this]
 ·rw[if_neg h]
  by_cases g:y < x<;>simp[g]
theorem okB_big {l:List Sd1} (h:okB l=true) {i:Nat} {x:Sd1} (hx:l[i]?=some x):x.2.big=false:=by
 unfold okB at h
 rw[φ] at h
 have:=qBd.1 h.2 i (List.mem_range.2 (List.getElem?_eq_some_iff.1 hx).1)
 unfold okS at this
 rw[hx] at this
 simp only[φ,Bool.not_eq_true'] at this
 exact this.1.2
theorem Rv_of {h:PH} {v:Value} {neg:Bool} {n d:Nat} (r:Rw h v neg n d) (l:¬lg neg n d):Rv h v (qof neg n d):=⟨_,_,_,r,l,rfl⟩
theorem drop_eq {l:List Sd1} {i:Nat} {x:Sd1} (hx:l[i]?=some x):l.drop i=x :: l.drop (i+1):=by
 obtain⟨h,e⟩:=List.getElem?_eq_some_iff.1 hx
 rw[List.drop_eq_getElem_cons h,e]
theorem Boxv.side {h:PH} {v:Value} {l:List Sd1} (r:Boxv h v l):∃a c,v=.slice a l.length c∧l.length≤2^30∧∀i x,l[i]?=some x→∃ad a1 m1 c1 a2 m2 c2 a3 m3 c3 a4 m4 c4,a=some ad∧
  (∀j v,([.string x.1,.bool x.2.n1,.slice a1 m1 c1,.slice a2 m2 c2,.bool x.2.n2,.slice a3 m3 c3,.slice a4 m4 c4,.bool x.2.l,.bool x.2.u]:List Value)[j]?=some v→h.at ((ad.add (i*9)).add j)=some v)∧
  Rw h (.agg #[.bool x.2.n1,.slice a1 m1 c1,.slice a2 m2 c2]) x.2.n1 x.2.a1 x.2.d1∧Rw h (.agg #[.bool x.2.n2,.slice a3 m3 c3,.slice a4 m4 c4]) x.2.n2 x.2.a2 x.2.d2∧Iv h (.agg #[.bool x.2.n1,.slice a1 m1 c1,.slice a2 m2 c2,.bool x.2.n2,.slice a3 m3 c3,.slice a4 m4 c4,.bool x.2.l,.bool x.2.u]) x.2:=by
 obtain⟨a,c,rfl,hl,k⟩:=r
 refine⟨a,c,rfl,hl,fun i x hx=>?_⟩
 obtain⟨ad,b1,a1,m1,c1,a2,m2,c2,b2,a3,m3,c3,a4,m4,c4,e,u,rfl,hat,hiv⟩:=k i x hx
 obtain⟨_,_,_,_,_,_,_,_,_,_,_,_,e0,r1,r2⟩:=hiv.sa
 have e1:=e0
 simp only[Value.agg.injEq,Array.mk.injEq,List.cons.injEq,and_true,Value.bool.injEq] at e1
 obtain⟨rfl,g1,g2,rfl,g3,g4,rfl,rfl⟩:=e1
 rw[←g1,←g2] at r1
 rw[←g3,←g4] at r2
 exact⟨ad,a1,m1,c1,a2,m2,c2,a3,m3,c3,a4,m4,c4,rfl,hat,r1,r2,hiv⟩
theorem Widest_spec {h0 h:PH} [Le h0 h] {v:Value} {l:List Sd1} (hv:Boxv h0 v l):Spec mach 16 #[v] h (fun r _=>r=wdR l) NP:=by
 have kV:=fun {h} [Le h0 h]=>BValid_spec (h:=h) hv
 unfold wdR
 cases hok:okB l with
 | false=>
  rw[hok] at kV
  obtain⟨_,_,_,rfl⟩:=hv.sa
  refine Spec.go [(20,.o [0,1,2,3,4])] Tryz.func16 rfl rfl (by kernel_rfl) fun C _=>?_
  try simp(maxSteps:=999999) (disch:=omega) only[go_sem,ξ,ζ]
  refine caN (by exact kV) ?_;rintro v1 h1 s1 rfl
  try simp(maxSteps:=999999) (disch:=omega) only[go_sem,ξ,ζ]
  all_goals rfl
 | true=>
  rw[hok] at kV
  obtain⟨a,c,rfl,hl,k⟩:=hv.side
  refine Spec.go [(20,.o [0,1,2,3,4])] Tryz.func16 rfl rfl (by kernel_rfl) fun C _=>?_
  try simp(maxSteps:=999999) (disch:=omega) only[go_sem,ξ,ζ]
  refine caN (by exact kV) ?_;rintro v1 h1 s1 rfl
  try simp(maxSteps:=999999) (disch:=omega) only[go_sem,ξ,ζ]
  refine lp [(20,.o [0,1,2,3,4])] (fun i:Nat=>⟨[(0,.v (.slice a l.length c)),(17,.v (.slice a l.length c)),(18,.v (.int .i64 l.length)),(19,.v (.int .i64 i))],[]⟩) (fun i h'=>Le h0 h'∧i≤l.length∧unbd (l.drop i)=unbd l) (fun i=>l.length - i) 0 ?_ ⟨inferInstance,qBh _,rfl⟩ (by kernel_rfl) ?_
  ·try simp(maxSteps:=999999) (disch:=omega) only[go_sem,ξ,ζ]
   all_goals rfl
  rintro i h2 ⟨le2,hi,hu⟩
  by_cases hlt:(i:Int) < l.length
  ·obtain⟨x,hx⟩:∃x,l[i]?=some x:=⟨_,List.getElem?_eq_getElem (by omega)⟩
   obtain⟨ad,a1,m1,c1,a2,m2,c2,a3,m3,c3,a4,m4,c4,rfl,hat,r1,r2,hiv⟩:=k i x hx
   rw[drop_eq hx,unbd] at hu
   try simp(maxSteps:=999999) (disch:=omega) only[go_sem,ξ,ζ,hlt,decide_true]
   refine Exists.intro [_,_,_,_,_,_,_,_,_] (And.intro rfl (And.intro (fun j v hj=>le2.sub.at (hat j v hj)) ?_))
   try simp(maxSteps:=999999) (disch:=omega) only[go_sem,ξ,ζ]
   cases hE:x.2.l with
   | true=>
    rw[hE,Bool.true_or,cond_true] at hu
    rw[←hu]
    try simp(maxSteps:=999999) (disch:=omega) only[go_sem,ξ,ζ,hE]
    all_goals rfl
   | false=>
    try simp(maxSteps:=999999) (disch:=omega) only[go_sem,ξ,ζ,hE]
    cases hU:x.2.u with
    | true=>
     rw[hE,hU,Bool.or_true,cond_true] at hu
     rw[←hu]
     try simp(maxSteps:=999999) (disch:=omega) only[go_sem,ξ,ζ,hU]
     all_goals rfl
    | false=>
     rw[hE,hU,Bool.or_false,cond_false] at hu
     try simp(maxSteps:=999999) (disch:=omega) only[go_sem,ξ,ζ,hU]
     dsimp only[lpE];refine⟨i+1,?_,⟨inferInstance,by omega,hu⟩,by omega⟩
     ·try simp(maxSteps:=999999) (disch:=omega) only[go_sem,ξ,ζ]
      all_goals rfl
  ·obtain rfl:i=l.length:=by omega
   rw[List.drop_length] at hu
   rw[←hu]
   try simp(maxSteps:=999999) (disch:=omega) only[go_sem,ξ,ζ,hlt,decide_false]
   refine caN (by exact oQ (n:=0) (by decide) (by decide)) ?_;rintro _ h3 _ f3;obtain⟨w1_0,w1_1,w1_2,w1_3,w1_4,w1_5,w1_6,rfl,f3⟩:=f3.sa
   try simp(maxSteps:=999999) (disch:=omega) only[go_sem,ξ,ζ]
   refine lp [(20,.o [0,1,2,3,4])] (fun x:Nat×ByteArray×Value×Value×Value=>⟨[(7,.v (.string x.2.1)),(8,.p 0 0),(35,.v (.slice a l.length c)),(36,.v (.int .i64 l.length)),(37,.v (.int .i64 x.1))],[[x.2.2.1,x.2.2.2.1,x.2.2.2.2]]⟩) (fun x h'=>Le h0 h'∧x.1≤l.length∧∃q,Rv h' (.agg #[x.2.2.1,x.2.2.2.1,x.2.2.2.2]) q∧wdF (l.drop x.1) x.2.1 q=wdF l ⟨#[]⟩ 0) (fun x=>l.length - x.1) (0,⟨#[]⟩,.bool w1_0,.slice w1_1 w1_2 w1_3,.slice w1_4 w1_5 w1_6) ?_ ⟨inferInstance,qBh _,0,Rv.of (by simpa using f3) (by decide),rfl⟩ (by kernel_rfl) ?_
   ·try simp(maxSteps:=999999) (disch:=omega) only[go_sem,ξ,ζ]
    all_goals rfl
   rintro⟨i,n,c1,c2,c3⟩ h4 ⟨le4,hi,q,hq,hF⟩
   dsimp only at hi hq hF ⊢
   by_cases hlt:(i:Int) < l.length
   ·obtain⟨x,hx⟩:∃x,l[i]?=some x:=⟨_,List.getElem?_eq_getElem (by omega)⟩
    obtain⟨ad,a1,m1,c1',a2,m2,c2',a3,m3,c3',a4,m4,c4',rfl,hat,r1,r2,hiv⟩:=k i x hx
    have hb:=okB_big hok hx
    unfold RI.big at hb
    simp only[Bool.or_eq_false_iff,decide_eq_false_iff_not] at hb
    rw[drop_eq hx,wdF] at hF
    try simp(maxSteps:=999999) (disch:=omega) only[go_sem,ξ,ζ,hlt,decide_true]
    refine Exists.intro [_,_,_,_,_,_,_,_,_] (And.intro rfl (And.intro (fun j v hj=>le4.sub.at (hat j v hj)) ?_))
    try simp(maxSteps:=999999) (disch:=omega) only[go_sem,ξ,ζ]
    refine caN (by exact wX (h:=h4) ((Rv_of r2 hb.2).to (h':=h4)) ((Rv_of r1 hb.1).to (h':=h4))) ?_;rintro r h5 s5 r5;obtain⟨b,na,nl,nc,da,dl,dc,e,rfl,k5⟩:=r5
    try simp(maxSteps:=999999) (disch:=omega) only[go_sem,ξ,ζ]
    rcases k5 with⟨rfl,g5⟩ |⟨rfl,g5,f5⟩
    ·rw[decide_eq_false (by unfold wdQ;omega),cond_false] at hF
     rw[←hF]
     try simp(maxSteps:=999999) (disch:=omega) only[go_sem,ξ,ζ]
     all_goals rfl
    ·rw[decide_eq_true (by unfold wdQ;omega),cond_true] at hF
     try simp(maxSteps:=999999) (disch:=omega) only[go_sem,ξ,ζ]
     refine caN (by exact gY (Rv.of f5 g5) (hq.to (h':=h5))) ?_;rintro v6 h6 s6 rfl
     try simp(maxSteps:=999999) (disch:=omega) only[go_sem,ξ,ζ]
     rw[show decide (cmpQ (qof x.2.n2 x.2.a2 x.2.d2+ -qof x.2.n1 x.2.a1 x.2.d1) q > 0)=decide (q < wdQ x.2) from cmp_lt]
     cases hD:decide (q < wdQ x.2) with
     | true=>
      rw[hD,cond_true] at hF
      try simp(maxSteps:=999999) (disch:=omega) only[go_sem,ξ,ζ,hD]
      dsimp only[lpE];refine⟨(i+1,x.1,.bool b,.slice na nl nc,.slice da dl dc),?_,⟨inferInstance,by show i+1≤_;omega,_,(Rv.of f5 g5).to,hF⟩,by show _ - (i+1) < _ - i;omega⟩
      try simp(maxSteps:=999999) (disch:=omega) only[go_sem,ξ,ζ]
      all_goals rfl
     | false=>
      rw[hD,cond_false] at hF
      try simp(maxSteps:=999999) (disch:=omega) only[go_sem,ξ,ζ,hD]
      dsimp only[lpE];refine⟨(i+1,n,c1,c2,c3),?_,⟨inferInstance,by show i+1≤_;omega,q,hq.to,hF⟩,by show _ - (i+1) < _ - i;omega⟩
      try simp(maxSteps:=999999) (disch:=omega) only[go_sem,ξ,ζ]
      all_goals rfl
   ·obtain rfl:i=l.length:=by omega
    rw[List.drop_length,wdF] at hF
    rw[←hF]
    try simp(maxSteps:=999999) (disch:=omega) only[go_sem,ξ,ζ,hlt,decide_false]
    all_goals rfl
theorem RWidest_spec {h0 h:PH} [Le h0 h] {v:Value} {l:List Sd1} (hv:Boxv h0 v l):Spec mach 17 #[v] h (fun r _=>r=wdR l) NP:=by
 have kV:=fun {h} [Le h0 h]=>RBValid_spec (h:=h) hv
 unfold wdR
 cases hok:okB l with
 | false=>
  rw[hok] at kV
  obtain⟨_,_,_,rfl⟩:=hv.sa
  refine Spec.go [(16,.o [0,2,1,3,4])] Tryz.func17 rfl rfl (by kernel_rfl) fun C _=>?_
  try simp(maxSteps:=999999) (disch:=omega) only[go_sem,ξ,ζ]
  refine caN (by exact kV) ?_;rintro v1 h1 s1 rfl
  try simp(maxSteps:=999999) (disch:=omega) only[go_sem,ξ,ζ]
  all_goals rfl
 | true=>
  rw[hok] at kV
  obtain⟨a,c,rfl,hl,k⟩:=hv.side
  refine Spec.go [(16,.o [0,2,1,3,4])] Tryz.func17 rfl rfl (by kernel_rfl) fun C _=>?_
  try simp(maxSteps:=999999) (disch:=omega) only[go_sem,ξ,ζ]
  refine caN (by exact kV) ?_;rintro v1 h1 s1 rfl
  try simp(maxSteps:=999999) (disch:=omega) only[go_sem,ξ,ζ]
  refine lp [(16,.o [0,2,1,3,4])] (fun i:Nat=>⟨[(0,.v (.slice a l.length c)),(16,.v (.slice a l.length c)),(17,.v (.int .i64 l.length)),(18,.v (.int .i64 i))],[]⟩) (fun i h'=>Le h0 h'∧i≤l.length∧unbd (l.drop i)=unbd l) (fun i=>l.length - i) 0 ?_ ⟨inferInstance,qBh _,rfl⟩ (by kernel_rfl) ?_
  ·try simp(maxSteps:=999999) (disch:=omega) only[go_sem,ξ,ζ]
   all_goals rfl
  rintro i h2 ⟨le2,hi,hu⟩
  by_cases hlt:(i:Int) < l.length
  ·obtain⟨x,hx⟩:∃x,l[i]?=some x:=⟨_,List.getElem?_eq_getElem (by omega)⟩
   obtain⟨ad,a1,m1,c1,a2,m2,c2,a3,m3,c3,a4,m4,c4,rfl,hat,r1,r2,hiv⟩:=k i x hx
   rw[drop_eq hx,unbd] at hu
   try simp(maxSteps:=999999) (disch:=omega) only[go_sem,ξ,ζ,hlt,decide_true]
   refine Exists.intro [_,_,_,_,_,_,_,_,_] (And.intro rfl (And.intro (fun j v hj=>le2.sub.at (hat j v hj)) ?_))
   try simp(maxSteps:=999999) (disch:=omega) only[go_sem,ξ,ζ]
   cases hE:x.2.l with
   | true=>
    rw[hE,Bool.true_or,cond_true] at hu
    rw[←hu]
    try simp(maxSteps:=999999) (disch:=omega) only[go_sem,ξ,ζ,hE]
    all_goals rfl
   | false=>
    try simp(maxSteps:=999999) (disch:=omega) only[go_sem,ξ,ζ,hE]
    cases hU:x.2.u with
    | true=>
     rw[hE,hU,Bool.or_true,cond_true] at hu
     rw[←hu]
     try simp(maxSteps:=999999) (disch:=omega) only[go_sem,ξ,ζ,hU]
     all_goals rfl
    | false=>
     rw[hE,hU,Bool.or_false,cond_false] at hu
     try simp(maxSteps:=999999) (disch:=omega) only[go_sem,ξ,ζ,hU]
     dsimp only[lpE];refine⟨i+1,?_,⟨inferInstance,by omega,hu⟩,by omega⟩
     ·try simp(maxSteps:=999999) (disch:=omega) only[go_sem,ξ,ζ]
      all_goals rfl
  ·obtain rfl:i=l.length:=by omega
   rw[List.drop_length] at hu
   rw[←hu]
   try simp(maxSteps:=999999) (disch:=omega) only[go_sem,ξ,ζ,hlt,decide_false]
   refine caN (by exact aF (n:=0) (by decide) (by decide)) ?_;rintro _ h3 _ f3;obtain⟨w1_0,w1_1,w1_2,w1_3,w1_4,w1_5,w1_6,rfl,f3⟩:=f3.sa
   try simp(maxSteps:=999999) (disch:=omega) only[go_sem,ξ,ζ]
   refine lp [(16,.o [0,2,1,3,4])] (fun x:Nat×ByteArray×Value×Value×Value=>⟨[(7,.v (.string x.2.1)),(8,.p 0 0),(34,.v (.slice a l.length c)),(35,.v (.int .i64 l.length)),(36,.v (.int .i64 x.1))],[[x.2.2.1,x.2.2.2.1,x.2.2.2.2]]⟩) (fun x h'=>Le h0 h'∧x.1≤l.length∧∃q,Qr h' (.agg #[x.2.2.1,x.2.2.2.1,x.2.2.2.2]) q∧sz q≤2048∧wdF (l.drop x.1) x.2.1 q=wdF l ⟨#[]⟩ 0) (fun x=>l.length - x.1) (0,⟨#[]⟩,.bool w1_0,.slice w1_1 w1_2 w1_3,.slice w1_4 w1_5 w1_6) ?_ ⟨inferInstance,qBh _,0,by simpa using f3,by decide,rfl⟩ (by kernel_rfl) ?_
   ·try simp(maxSteps:=999999) (disch:=omega) only[go_sem,ξ,ζ]
    all_goals rfl
   rintro⟨i,n,c1,c2,c3⟩ h4 ⟨le4,hi,q,hq,hs,hF⟩
   dsimp only at hi hq hF ⊢
   by_cases hlt:(i:Int) < l.length
   ·obtain⟨x,hx⟩:∃x,l[i]?=some x:=⟨_,List.getElem?_eq_getElem (by omega)⟩
    obtain⟨ad,a1,m1,c1',a2,m2,c2',a3,m3,c3',a4,m4,c4',rfl,hat,r1,r2,hiv⟩:=k i x hx
    have hb:=okB_big hok hx
    unfold RI.big at hb
    simp only[Bool.or_eq_false_iff,decide_eq_false_iff_not] at hb
    rw[drop_eq hx,wdF] at hF
    try simp(maxSteps:=999999) (disch:=omega) only[go_sem,ξ,ζ,hlt,decide_true]
    refine Exists.intro [_,_,_,_,_,_,_,_,_] (And.intro rfl (And.intro (fun j v hj=>le4.sub.at (hat j v hj)) ?_))
    try simp(maxSteps:=999999) (disch:=omega) only[go_sem,ξ,ζ]
    refine caN (by exact RSub_spec (h:=h4) ((Rv_of r2 hb.2).to (h':=h4)) ((Rv_of r1 hb.1).to (h':=h4))) ?_;rintro r h5 s5 r5;obtain⟨b,na,nl,nc,da,dl,dc,e,rfl,k5⟩:=r5
    try simp(maxSteps:=999999) (disch:=omega) only[go_sem,ξ,ζ]
    rcases k5 with⟨rfl,g5⟩ |⟨rfl,g5,f5⟩
    ·rw[decide_eq_false (by unfold wdQ;omega),cond_false] at hF
     rw[←hF]
     try simp(maxSteps:=999999) (disch:=omega) only[go_sem,ξ,ζ]
     all_goals rfl
    ·rw[decide_eq_true (by unfold wdQ;omega),cond_true] at hF
     have kO:=fun {h} [Le h5 h]=>bM (h:=h) (f5.rw (by omega))
     rw[jA] at kO
     try simp(maxSteps:=999999) (disch:=omega) only[go_sem,ξ,ζ]
     refine caN (by exact kO) ?_;rintro _ h6 _ f6;obtain⟨_,_,_,_,_,_,_,rfl,f6⟩:=f6.sa
     try simp(maxSteps:=999999) (disch:=omega) only[go_sem,ξ,ζ]
     refine caN (by exact av f6 (hq.to (h':=h6)) (by omega) (by omega)) ?_;rintro v6 h7 s7 rfl
     try simp(maxSteps:=999999) (disch:=omega) only[go_sem,ξ,ζ]
     rw[show decide (cmpQ (qof x.2.n2 x.2.a2 x.2.d2+ -qof x.2.n1 x.2.a1 x.2.d1) q > 0)=decide (q < wdQ x.2) from cmp_lt]
     cases hD:decide (q < wdQ x.2) with
     | true=>
      rw[hD,cond_true] at hF
      try simp(maxSteps:=999999) (disch:=omega) only[go_sem,ξ,ζ,hD]
      refine caN (by exact kO) ?_;rintro _ h8 _ f8;obtain⟨u3_0,u3_1,u3_2,u3_3,u3_4,u3_5,u3_6,rfl,f8⟩:=f8.sa
      try simp(maxSteps:=999999) (disch:=omega) only[go_sem,ξ,ζ]
      dsimp only[lpE];refine⟨(i+1,x.1,.bool u3_0,.slice u3_1 u3_2 u3_3,.slice u3_4 u3_5 u3_6),?_,⟨inferInstance,by show i+1≤_;omega,_,f8,g5,hF⟩,by show _ - (i+1) < _ - i;omega⟩
      try simp(maxSteps:=999999) (disch:=omega) only[go_sem,ξ,ζ]
      all_goals rfl
     | false=>
      rw[hD,cond_false] at hF
      try simp(maxSteps:=999999) (disch:=omega) only[go_sem,ξ,ζ,hD]
      dsimp only[lpE];refine⟨(i+1,n,c1,c2,c3),?_,⟨inferInstance,by show i+1≤_;omega,q,hq.to,hs,hF⟩,by show _ - (i+1) < _ - i;omega⟩
      try simp(maxSteps:=999999) (disch:=omega) only[go_sem,ξ,ζ]
      all_goals rfl
   ·obtain rfl:i=l.length:=by omega
    rw[List.drop_length,wdF] at hF
    rw[←hF]
    try simp(maxSteps:=999999) (disch:=omega) only[go_sem,ξ,ζ,hlt,decide_false]
    all_goals rfl
theorem wdR_sh (l:List Sd1):∃a b e,wdR l=.tuple #[.string a,.bool b,.int .i64 e]:=by
 unfold wdR
 cases okB l with
 |false=>exact⟨_,_,_,rfl⟩
 | true=>
  rw[cond_true]
  split
  ·exact⟨_,_,_,rfl⟩
  ·split<;>exact⟨_,_,_,rfl⟩
theorem Widest_law {h0 h:PH} [Le h0 h] {v:Value} {l:List Sd1} (hv:Boxv h0 v l):Spec mach 4 #[v] h (fun r _=>r=.bool true) NP:=by
 have kF:=fun {h} [Le h0 h]=>Widest_spec (h:=h) hv
 have kG:=fun {h} [Le h0 h]=>RWidest_spec (h:=h) hv
 obtain⟨a,b,e,hw⟩:=wdR_sh l
 rw[hw] at kF kG
 obtain⟨_,_,_,rfl⟩:=hv.sa
 refine Spec.go [] Tryz.func4 rfl rfl (by kernel_rfl) fun C _=>?_
 try simp(maxSteps:=999999) (disch:=omega) only[go_sem,ξ,ζ]
 refine caN (by exact kF) ?_;rintro v1 h1 s1 rfl
 try simp(maxSteps:=999999) (disch:=omega) only[go_sem,ξ,ζ]
 refine caN (by exact kG) ?_;rintro v2 h2 s2 rfl
 try simp(maxSteps:=999999) (disch:=omega) only[go_sem,ξ,ζ]
 have e1:(a.toList == a.toList)=true:=by simp
 have e2:(b == b)=true:=by simp
 try simp(maxSteps:=999999) (disch:=omega) only[go_sem,ξ,ζ,e1,e2]
 refine caN (by exact awake05_spec) ?_;rintro v8 h8 s8 rfl
 try simp(maxSteps:=999999) (disch:=omega) only[go_sem,ξ,ζ]
 all_goals rfl
end Go.Q
