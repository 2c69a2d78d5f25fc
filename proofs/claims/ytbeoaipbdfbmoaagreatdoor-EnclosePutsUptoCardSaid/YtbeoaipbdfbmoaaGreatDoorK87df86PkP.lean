/-
  A box without a side, and what stands on it. Conditions: each theorem's own.
-/
import Derived.Test.YtbeoaipbdfbmoaaGreatDoorKbd901aPkO
import Derived.Test.YtbeoaipbdfbmoaaGreatDoorK0412d4PkM
import Derived.Test.YtbeoaipbdfbmoaaGreatDoorK458a53PkG
set_option linter.unusedVariables false
set_option linter.unusedSimpArgs false
open Nat renaming reduceBEq→ξ,reduceAdd→ζ,le_trans→χ,le_refl→η,mul_le_mul→qAk
open Bool renaming and_eq_true→φ
open List renaming mem_cons_self→qAt,mem_singleton→qBc
namespace Go.Q
open Go.Proofs Go.RowKit
attribute [local go_sem] Oper.semAt_some
set_option maxRecDepth 100000
set_option maxHeartbeats 4000000
theorem post_done {w W:World} {h:PH} {R:Value→PH→Prop} {E:List PanicEntry→PH→Prop} {v:Value} (hb:Below w.heap.size w W) (hh:Has W h) (r:R v h):Post w h R E (.returned v) W:=⟨h,hb,hh,Sub.refl _,fun _ h=>.inl h,r⟩
theorem qs_up (a b:PH) (hs:Sub a b) (cs:List Value) (s:Sd1) (q:Qs a cs s):Qs b cs s:=by
 haveI:Le a b:=⟨hs⟩
 exact q.to
def dropI (w:World) (h:PH) (l:List Sd1) (s:ByteArray) (va:Option Addr) (vc N:Nat) (i:Nat) (W:World):Prop:=
 (∃hp u,Col w h N 22 82 9 Qs [(w.heap.size,#[.string s],9),(N+1,#[.slice va l.length vc],22)] ((l.take i).filter (kept s)) hp u W)∧True
def dropM (w:World) (h:PH) (l:List Sd1) (s:ByteArray) (va:Option Addr) (vc N k:Nat) (i:Nat) (x:Nat×List Value) (a':Act) (W:World):Prop:=
 (∃ hp u,(∃Bx x',Col w h N 22 82 9 Qs [(Bx,(.string (nmAt l x.1) :: x.2).toArray,82),(w.heap.size,#[.string s],9),(N+1,#[.slice va l.length vc],22)] ((l.take i).filter (kept s)) hp u W∧l[i]?=some x'∧Iv hp (.agg x.2.toArray) x'.2∧
    a'={tmps:=#[.slice va l.length vc,.string s,undef,.pointer (some ⟨w.heap.size,0,none⟩),.slice none 0 0,.int .i64 0,.pointer (some ⟨N,0,none⟩),undef,.pointer (some ⟨Bx,0,none⟩),.bool false,.string s,.bool true,.bool false,.bool false,.slice va l.length vc,.bool true,.bool false,.bool false,.slice va l.length vc,.string s,.int .i64 k,.bool false,.slice va l.length vc,
     .func (.func 96) #[] #[.pointer (some ⟨N+1,0,none⟩)],.int .i64 x.1,.agg (.string (nmAt l x.1) :: x.2).toArray,undef,undef,undef,undef,undef,undef,undef,undef,undef],defers:=[]}))∧(x.1=i∧ivC x.2)
theorem Drop_spec {h0 h:PH} [l0:Le h0 h] {v:Value} {l:List Sd1} {s:ByteArray} (hv:Boxv h0 v l):Spec mach 11 #[v,.string s] h (fun r h'=>DropR h' r l s) NP:=by
 refine⟨by kernel_rfl,fun w hw hg=>?_⟩
 refine(callsIn_wide (n:=8)).1 ?_
 show CallsIn Fence.wide 8 Tryz.prog _ _ w _
 have hro:Fence.wide.round=none:=rfl
 have g1:Fence.wide.fn 42:=trivial
 have g2:Fence.wide.fn 37:=trivial
 have g3:Fence.wide.fn 39:=trivial
 have g4:Fence.wide.fn 40:=trivial
 have kN:=IsName_spec (h:=h) (s:=s)
 have kV:=BValid_spec (h:=h) hv
 have kI:=Index_spec (h:=h) (s:=s) hv
 have kX:=fun {B:Nat}=>box_x (n:=8) (B:=B) (T:=22) (f:=(0,0)) hv hg
 obtain⟨va,vc,rfl,hl30,_⟩:=hv
 unfold DropR
 have hb1:Below w.heap.size w (w.alloc (.cells #[.string s] 9)):=(Below.refl _ w).alloc (η _) _
 have hh1:=hw.below hb1
 have n1:=World.alloc_heap_new w (.cells #[.string s] 9)
 refine callsIn_of_wp_marks Tryz.func11 rfl trivial ?_ hro
 simp only[Tryz.ntmps11,List.size_toArray,List.length_cons,List.length_nil,ζ,Nat.reduceSub,Array.replicate_succ,Array.replicate_zero,List.push_toArray,List.append_toArray,List.nil_append,List.cons_append]
 unfold namE
 cases e1:nameB s with
 | false=>
  rw[e1] at kN
  gi_wp2_with (gi_at_call 37;refine(callsIn_wide.2 (kN.run _ hh1 hg)).mono ?_;rintro e W2 hP;obtain⟨_,hm,rfl,q1,q2,q3,q4,rfl⟩:=post_ret hP;have hb2:=hb1.trans (q1.mono hb1.size);have hh2:=hh1.below q1;have n2:=(q1.block w.heap.size (by simp)).trans n1;clear hP q1 q2 q3 q4)
  exact⟨_,results_tmp2 rfl _ _ _,post_done hb2 hh2 rfl⟩
 | true=>
  rw[e1] at kN
  cases e2:okB l with
  | false=>
   rw[e2] at kV
   gi_wp2_with (first |(gi_at_call 37;refine(callsIn_wide.2 (kN.run _ hh1 hg)).mono ?_;rintro e W2 hP;obtain⟨_,hm,rfl,q1,q2,q3,q4,rfl⟩:=post_ret hP;have hb2:=hb1.trans (q1.mono hb1.size);have hh2:=hh1.below q1;have n2:=(q1.block w.heap.size (by simp)).trans n1;clear hP q1 q2 q3 q4) |(gi_at_call 39;refine(callsIn_wide.2 (kV.run _ hh2 hg)).mono ?_;rintro e W3 hP;obtain⟨_,hm3,rfl,q1,q2,q3,q4,rfl⟩:=post_ret hP;have hb3:=hb2.trans (q1.mono hb2.size);have hh3:=hh2.below q1;have n3:=(q1.block w.heap.size (Array.getElem?_eq_some_iff.1 n2).1).trans n2;have c3:W3.cell? ⟨w.heap.size,0,none⟩=some (.string s):=bx_cell n3 0;clear hP q1 q2 q3 q4))
   exact⟨_,results_tmp2 rfl _ _ _,post_done hb3 hh3 rfl⟩
  | true=>
   rw[e2] at kV
   cases e3:fnd l s with
   | none=>
    rw[e3] at kI
    gi_wp2_with (first |(gi_at_call 37;refine(callsIn_wide.2 (kN.run _ hh1 hg)).mono ?_;rintro e W2 hP;obtain⟨_,hm,rfl,q1,q2,q3,q4,rfl⟩:=post_ret hP;have hb2:=hb1.trans (q1.mono hb1.size);have hh2:=hh1.below q1;have n2:=(q1.block w.heap.size (by simp)).trans n1;clear hP q1 q2 q3 q4) |(gi_at_call 39;refine(callsIn_wide.2 (kV.run _ hh2 hg)).mono ?_;rintro e W3 hP;obtain⟨_,hm3,rfl,q1,q2,q3,q4,rfl⟩:=post_ret hP;have hb3:=hb2.trans (q1.mono hb2.size);have hh3:=hh2.below q1;have n3:=(q1.block w.heap.size (Array.getElem?_eq_some_iff.1 n2).1).trans n2;have c3:W3.cell? ⟨w.heap.size,0,none⟩=some (.string s):=bx_cell n3 0;clear hP q1 q2 q3 q4) |(gi_at_call 40;refine(callsIn_wide.2 (kI.run _ hh3 hg)).mono ?_;rintro e W4 hP;obtain⟨_,hm4,rfl,q1,q2,q3,q4,rfl⟩:=post_ret hP;have hb4:=hb3.trans (q1.mono hb3.size);have hh4:=hh3.below q1;have n4:=(q1.block w.heap.size (Array.getElem?_eq_some_iff.1 n3).1).trans n3;clear hP q1 q2 q3 q4))
    exact⟨_,results_tmp2 rfl _ _ _,post_done hb4 hh4 rfl⟩
   | some k=>
    rw[e3] at kI
    have hk:decide ((k:Int) < 0)=false:=decide_eq_false (by omega)
    gi_wp2_with (first |(gi_at_call 37;refine(callsIn_wide.2 (kN.run _ hh1 hg)).mono ?_;rintro e W2 hP;obtain⟨_,hm,rfl,q1,q2,q3,q4,rfl⟩:=post_ret hP;have hb2:=hb1.trans (q1.mono hb1.size);have hh2:=hh1.below q1;have n2:=(q1.block w.heap.size (by simp)).trans n1;clear hP q1 q2 q3 q4) |(gi_at_call 39;refine(callsIn_wide.2 (kV.run _ hh2 hg)).mono ?_;rintro e W3 hP;obtain⟨_,hm3,rfl,q1,q2,q3,q4,rfl⟩:=post_ret hP;have hb3:=hb2.trans (q1.mono hb2.size);have hh3:=hh2.below q1;have n3:=(q1.block w.heap.size (Array.getElem?_eq_some_iff.1 n2).1).trans n2;have c3:W3.cell? ⟨w.heap.size,0,none⟩=some (.string s):=bx_cell n3 0;clear hP q1 q2 q3 q4) |(gi_at_call 40;refine(callsIn_wide.2 (kI.run _ hh3 hg)).mono ?_;rintro e W4 hP;obtain⟨_,hm4,rfl,q1,q2,q3,q4,rfl⟩:=post_ret hP;have hb4:=hb3.trans (q1.mono hb3.size);have hh4:=hh3.below q1;have n4:=(q1.block w.heap.size (Array.getElem?_eq_some_iff.1 n3).1).trans n3;clear hP q1 q2 q3 q4) |(gi_at_call 42;refine(sides_in (n:=7)).mono ?_;rintro e w2 ⟨rfl,rfl⟩))
    obtain⟨W0,hW0⟩:∃W0,(W4.alloc (.cells #[.slice none 0 0] 22)).alloc (.cells #[.slice va l.length vc] 22)=W0:=⟨_,rfl⟩
    rw[hW0]
    have hw4:w.heap.size < W4.heap.size:=(Array.getElem?_eq_some_iff.1 n4).1
    have hb0:Below w.heap.size w W0:=by
     rw[←hW0]
     exact(hb4.alloc (by omega) _).alloc (by simp;omega) _
    have hs0:W0.heap.size=W4.heap.size+2:=by rw[←hW0];simp
    have b3:W0.heap[W4.heap.size+1]?=some (.cells #[.slice va l.length vc] 22 (0,0)):=by
     rw[←hW0];simpa using World.alloc_heap_new (W4.alloc (.cells #[.slice none 0 0] 22)) (.cells #[.slice va l.length vc] 22)
    have b2:Boxed W0 W4.heap.size 22 (.slice none 0 0):=by
     rw[←hW0];exact(Boxed.new W4 22 (.slice none 0 0)).alloc _
    have b1:Boxed W0 w.heap.size 9 (.string s):=by
     rw[←hW0];exact((show Boxed W4 w.heap.size 9 (.string s) from n4).alloc _).alloc _
    have hw0:Has W0 h:=by
     rw[←hW0];exact hh4.below (((Below.refl _ W4).alloc (η _) _).alloc (by simp) _)
    generalize hN:W4.heap.size=N at*
    clear hW0 hh4 n4 hb4 hh3 hh2 n3 n2 hb3 hb2 c3
    refine range_x (n:=8) hro (by decide) (gf:=96) (lb:=#[.pointer (some ⟨N+1,0,none⟩)]) rfl trivial (enters_of Tryz.func96 (by kernel_rfl) rfl)
     kX (fun W hb=>⟨hw0.below hb,(hb.block _ (by omega)).trans b3⟩) (fun _=>rfl)
     (dropI w h l s va vc N) (fun _ _=>False)
     (col_own (by omega) (fun i=>(l.take i).filter (kept s)) (fun _=>True)) (fun _ _ _ _ hs _ _=>hs) (fun i W ⟨⟨hp,u,c⟩,_⟩=>⟨fun b cs hx=>c.has b cs (c.sub _ _ hx),(c.rest _ (List.mem_cons_of_mem _ (qAt ..))).1⟩)
     ⟨⟨h,_,Col.start hw hb0 (by omega) b2 (fun x hx=>by
      rcases List.mem_cons.1 hx with rfl |hx
      ·exact⟨b1,η _,by show w.heap.size≠_;omega⟩
      ·obtain rfl:=qBc.1 hx
       exact⟨b3,by show _≤N+1;omega,by show N+1≠_;omega⟩)⟩,trivial⟩
     (dropM w h l s va vc N k)
     (fun i x a' _ _ _ _ ⟨⟨hp,u,Bx,s,c,q⟩,g⟩ hg hr=>⟨⟨hp,u,Bx,s,c.kept hg fun r e=>⟨χ (by omega) (hr r e).1,(hr r e).2⟩,q⟩,g⟩)
     ?assign ?body ?done ?stop
    case assign=>
     rintro lr i ⟨xi,xl⟩ Wa W hi ⟨⟨hp,u,c⟩,_⟩ hgr _ ⟨rfl,⟨p1,p2,p3,p4,p5,p6,p7,p8,p9,p10,p11,p12,p13,p14,p15,p16,rfl⟩,hn,x',h1,h2,h3,h4,h5⟩
     obtain⟨hj,c2,j2,_⟩:=c.meet hgr h2 h3 h4 qs_up
     haveI:Le hn hj:=⟨j2⟩
     dsimp only
     gi_wp2
     refine⟨(KeepsOthers.alloc _ _).from _,?_⟩
     unfold dropM
     exact⟨⟨hj,u,_,x',c2.push _ _,h1,h5.to,rfl⟩,rfl,⟨_,_,_,_,_,_,_,_,_,_,_,_,_,_,_,_,rfl⟩⟩
    case body=>
     rintro lr i ⟨xi,xl⟩ a' W hi ⟨⟨hp,u,Bx,x',c,h1,h5,rfl⟩,rfl,⟨p1,p2,p3,p4,p5,p6,p7,p8,p9,p10,p11,p12,p13,p14,p15,p16,rfl⟩⟩
     dsimp only at c h5 ⊢
     have hBx:=(c.rest _ (qAt ..)).1
     dsimp only at hBx
     have d0:=bx_cell hBx 0
     have d1:=bx_cell hBx 1
     have d2:=bx_cell hBx 2
     have d3:=bx_cell hBx 3
     have d4:=bx_cell hBx 4
     have d5:=bx_cell hBx 5
     have d6:=bx_cell hBx 6
     have d7:=bx_cell hBx 7
     have d8:=bx_cell hBx 8
     simp only[List.getElem?_toArray,List.getElem?_cons_zero,List.getElem?_cons_succ] at d0 d1 d2 d3 d4 d5 d6 d7 d8
     have dN:W.cell? ⟨w.heap.size,0,none⟩=some (.string s):=bx_cell (c.rest _ (List.mem_cons_of_mem _ (qAt ..))).1 0
     have hn:nmAt l xi=x'.1:=by unfold nmAt;rw[h1];rfl
     have eT:=filt_take (f:=kept s) h1
     cases eK:kept s x' with
     | false=>
      rw[eK,if_neg (by decide)] at eT
      unfold kept at eK
      gi_wp2
      refine⟨KeepsFrom.refl _ _,?_⟩
      unfold dropI
      rw[eT]
      exact⟨⟨hp,u,c.less fun x hx=>List.mem_cons_of_mem _ hx⟩,trivial⟩
     | true=>
      rw[eK,if_pos rfl] at eT
      unfold kept at eK
      have h6:l.length≤6:=by
       unfold okB at e2
       rw[φ] at e2
       exact of_decide_eq_true e2.1
      obtain⟨e0,i0,z0,hU,hi0,hz0,hz1,hz2,_,hy1,hy2⟩:=mkN_some (P:=Tryz.prog) (T:=22) (sz:=9) (by kernel_rfl)
      obtain rfl:e0=82:=by have:=hU.symm.trans Tryz.underlying22;simpa using this
      have hlen:((l.take xi).filter (kept s)).length≤6:=χ (List.length_filter_le _ _) (by simp;omega)
      have rB:=c.box.cell
      obtain⟨xs,hx,hR⟩:=c.row
      gi_wp2_with (gi_at_builtin;refine wpListIn_append_own_at _ rfl _ _ 22 rfl w.heap.size 82 i0 z0 9 i0.bytes hU hi0 hz0 hz1 rfl hz2 (by decide) u _ xs rfl (hx.alloc _) ⟨W.heap.size,0,none⟩ 1 1 [.string x'.1,.bool p1,.slice p2 p3 p4,.slice p5 p6 p7,.bool p8,.slice p9 p10 p11,.slice p12 p13 p14,.bool p15,.bool p16] rfl rfl ?_ (by simp[Value.oneCell']) (by unfold maxLen;omega) ?_ ?_ ?_)
      ·exact χ (qAk (Nat.succ_le_succ hlen) hy2) (by decide)
      ·have:=c.below.size
       simp;omega
      ·intro v' w1 hown hgrow _ hat
       obtain⟨g',cap',e'⟩:=ownsRow_succ hown
       obtain⟨k1,k2,k3⟩:=c.app (s:=x') (cs:=[.string x'.1,.bool p1,.slice p2 p3 p4,.slice p5 p6 p7,.bool p8,.slice p9 p10 p11,.slice p12 p13 p14,.bool p15,.bool p16]) (by decide) (by omega) hx hR rfl ⟨_,rfl,rfl,h5⟩ (by simpa using hown) hgrow (by simpa using hat)
       rw[←eT] at k2
       have e1:=k1.cell
       have e2:=k1.frozen
       subst e'
       gi_wp2
       refine⟨k3.from _,?_⟩
       unfold dropI
       exact⟨⟨hp,_,k2.less fun x hx=>List.mem_cons_of_mem _ hx⟩,trivial⟩
    case done=>
     rintro D W hD ⟨⟨hp,u,c⟩,_⟩ hK
     obtain⟨ua,un,uc,rfl⟩:∃a n c,u=.slice a n c:=by
      obtain⟨xs,h1,_⟩:=c.row
      rcases h1.2 with⟨rfl,_⟩ |⟨g,cap,cur,rfl,_⟩
      ·exact⟨_,_,_,rfl⟩
      ·exact⟨_,_,_,rfl⟩
     have e0:=c.box.cell
     gi_wp2
     refine⟨by simp,.inl ⟨_,_,rfl,run_takeDeferred hK,?_⟩⟩
     refine⟨_,results_tmp2 rfl _ _ _,?_⟩
     have c3:=c.kept (grownBy_putObj' _ D (.deferred none)) (fun r e=>by cases e;exact⟨by omega,_,hK,rfl⟩)
     rw[List.take_length] at c3
     obtain⟨hf,m1,m2,m3,a,cap,e,k⟩:=c3.fin (qs_up _)
     exact⟨hf,c3.below,m1,m2,m3,_,rfl,a,cap,e,k⟩
    case stop=>
     rintro D cc W hD hf hK
     exact hf.elim
end Go.Q
namespace Go.Q
open Go.Proofs Go.RowKit
attribute [local go_sem] Oper.semAt_some
set_option maxRecDepth 100000
set_option maxHeartbeats 16000000
def putI (w:World) (h:PH) (l:List Sd1) (s:ByteArray) (y:RI) (cc:Array Value) (va:Option Addr) (vc N:Nat) (i:Nat) (W:World):Prop:=
 (∃hp u,Col w h (N+1) 22 82 9 Qs [(w.heap.size,#[.string s],9),(N,cc,27),(N+1+1,#[.slice va l.length vc],22)] ((l.take i).map (putS s y)) hp u W∧Iv hp (.agg cc) y.set.ri)∧True
def putM (w:World) (h:PH) (l:List Sd1) (s:ByteArray) (y:RI) (yc cc:Array Value) (va:Option Addr) (vc N k:Nat) (i:Nat) (x:Nat×List Value) (a':Act) (W:World):Prop:=
  (∃ hp u,(∃Bx x',Col w h (N+1) 22 82 9 Qs [(Bx,(.string (nmAt l x.1) :: x.2).toArray,82),(w.heap.size,#[.string s],9),(N,cc,27),(N+1+1,#[.slice va l.length vc],22)] ((l.take i).map (putS s y)) hp u W∧Iv hp (.agg cc) y.set.ri∧l[i]?=some x'∧Iv hp (.agg x.2.toArray) x'.2∧
        a'={tmps:=#[.slice va l.length vc,.string s,.agg yc,undef,.pointer (some ⟨w.heap.size,0,none⟩),.pointer (some ⟨w.heap.size+1,0,none⟩),.slice none 0 0,.int .i64 0,.bool false,.int .i64 0,.pointer (some ⟨N,0,none⟩),.pointer (some ⟨N+1,0,none⟩),undef,.pointer (some ⟨Bx,0,none⟩),.string s,.bool true,.bool false,.tuple #[.bool false,.int .i64 0],.agg yc,.tuple #[.bool false,.int .i64 0],.bool false,.int .i64 0,.slice va l.length vc,.bool true,.bool false,.bool false,.int .i64 0,.bool false,.bool false,.bool false,.bool false,.bool false,.slice va l.length vc,.string s,.int .i64 k,.bool false,.tuple #[.agg cc,.int .i64 0],.agg yc,.tuple #[.agg cc,.int .i64 0],.agg cc,.int .i64 0,.int .i64 0,.bool false,undef,.slice va l.length vc,
          .func (.func 96) #[] #[.pointer (some ⟨N+1+1,0,none⟩)],.int .i64 x.1,.agg (.string (nmAt l x.1) :: x.2).toArray,undef,undef,undef,undef,undef,undef,undef,undef,undef,undef,undef],defers:=[]}))∧(x.1=i∧ivC x.2)
theorem Put_spec {h0 h:PH} [l0:Le h0 h] {v yv:Value} {l:List Sd1} {s:ByteArray} {y:RI} (hv:Boxv h0 v l) (hy:Iv h0 yv y):Spec mach 9 #[v,.string s,yv] h (fun r h'=>PutR h' r l s y) NP:=by
 refine⟨by kernel_rfl,fun w hw hg=>?_⟩
 refine(callsIn_wide (n:=8)).1 ?_
 show CallsIn Fence.wide 8 Tryz.prog _ _ w _
 have hro:Fence.wide.round=none:=rfl
 have g1:Fence.wide.fn 42:=trivial
 have g2:Fence.wide.fn 37:=trivial
 have g3:Fence.wide.fn 39:=trivial
 have g4:Fence.wide.fn 40:=trivial
 have g5:Fence.wide.fn 38:=trivial
 have g6:Fence.wide.fn 41:=trivial
 have kN:=IsName_spec (h:=h) (s:=s)
 have kV:=BValid_spec (h:=h) hv
 have kI:=Index_spec (h:=h) (s:=s) hv
 have kE:=sI (h:=h) hy
 have kC:=wN (h:=h) hy
 have kX:=fun {B:Nat}=>box_x (n:=8) (B:=B) (T:=22) (f:=(0,0)) hv hg
 obtain⟨va,vc,rfl,hl30,_⟩:=hv
 obtain⟨a1,m1,c1,a2,m2,c2,a3,m3,c3,a4,m4,c4,rfl,_,_⟩:=hy.sa
 unfold PutR
 have hb1:Below w.heap.size w ((w.alloc (.cells #[.string s] 9)).alloc (.cells #[.bool y.n1,.slice a1 m1 c1,.slice a2 m2 c2,.bool y.n2,.slice a3 m3 c3,.slice a4 m4 c4,.bool y.l,.bool y.u] 27)):=((Below.refl _ w).alloc (η _) _).alloc (by simp) _
 have hh1:=hw.below hb1
 have n1:((w.alloc (.cells #[.string s] 9)).alloc (.cells #[.bool y.n1,.slice a1 m1 c1,.slice a2 m2 c2,.bool y.n2,.slice a3 m3 c3,.slice a4 m4 c4,.bool y.l,.bool y.u] 27)).heap[w.heap.size]?=some (.cells #[.string s] 9 (0,0)):=(Below.heap_alloc _ _ _ (by simp)).trans (World.alloc_heap_new w _)
 have v1:((w.alloc (.cells #[.string s] 9)).alloc (.cells #[.bool y.n1,.slice a1 m1 c1,.slice a2 m2 c2,.bool y.n2,.slice a3 m3 c3,.slice a4 m4 c4,.bool y.l,.bool y.u] 27)).heap[w.heap.size+1]?=some (.cells #[.bool y.n1,.slice a1 m1 c1,.slice a2 m2 c2,.bool y.n2,.slice a3 m3 c3,.slice a4 m4 c4,.bool y.l,.bool y.u] 27 (0,0)):=by simpa using World.alloc_heap_new (w.alloc (.cells #[.string s] 9)) (.cells #[.bool y.n1,.slice a1 m1 c1,.slice a2 m2 c2,.bool y.n2,.slice a3 m3 c3,.slice a4 m4 c4,.bool y.l,.bool y.u] 27)
 refine callsIn_of_wp_marks Tryz.func9 rfl trivial ?_ hro
 simp only[Tryz.ntmps9,List.size_toArray,List.length_cons,List.length_nil,ζ,Nat.reduceSub,Array.replicate_succ,Array.replicate_zero,List.push_toArray,List.append_toArray,List.nil_append,List.cons_append]
 unfold namE
 cases e1:nameB s with
 | false=>
  rw[e1] at kN
  gi_wp2_with (gi_at_call 37;refine(callsIn_wide.2 (kN.run _ hh1 hg)).mono ?_;rintro e W2 hP;obtain⟨_,hm,rfl,q1,q2,q3,q4,rfl⟩:=post_ret hP;have hb2:=hb1.trans (q1.mono hb1.size);have hh2:=hh1.below q1;have n2:=(q1.block w.heap.size (by simp;omega)).trans n1;have v2:=(q1.block (w.heap.size+1) (by simp)).trans v1;have dv2:=bx8 v2;clear hP q1 q2 q3 q4)
  exact⟨_,results_tmp2 rfl _ _ _,post_done hb2 hh2 rfl⟩
 | true=>
  rw[e1] at kN
  have kE':∃be ee,Spec mach 38 #[.agg #[.bool y.n1,.slice a1 m1 c1,.slice a2 m2 c2,.bool y.n2,.slice a3 m3 c3,.slice a4 m4 c4,.bool y.l,.bool y.u]] h (fun r _=>r=.tuple #[.bool be,.int .i64 ee]) NP∧(putG y=(ee == 0 && !be)):=by
   unfold putG
   unfold RI.bo Br at kE
   cases gb:y.big with
   |true=>rw[gb] at kE;exact⟨false,1,kE,rfl⟩
   |false=>rw[gb] at kE;exact⟨y.set.void,0,kE,rfl⟩
  clear kE
  obtain⟨be,ee,kE,eG⟩:=kE'
  rw[eG]
  cases e2:okB l with
  | false=>
   rw[e2] at kV
   gi_wp2_with (first |(gi_at_call 37;refine(callsIn_wide.2 (kN.run _ hh1 hg)).mono ?_;rintro e W2 hP;obtain⟨_,hm,rfl,q1,q2,q3,q4,rfl⟩:=post_ret hP;have hb2:=hb1.trans (q1.mono hb1.size);have hh2:=hh1.below q1;have n2:=(q1.block w.heap.size (by simp;omega)).trans n1;have v2:=(q1.block (w.heap.size+1) (by simp)).trans v1;have dv2:=bx8 v2;clear hP q1 q2 q3 q4) |(gi_at_call 38;refine(callsIn_wide.2 (kE.run _ hh2 hg)).mono ?_;rintro e W3 hP;obtain⟨_,hm3,rfl,q1,q2,q3,q4,rfl⟩:=post_ret hP;have hb3:=hb2.trans (q1.mono hb2.size);have hh3:=hh2.below q1;have n3:=(q1.block w.heap.size (Array.getElem?_eq_some_iff.1 n2).1).trans n2;have v3:=(q1.block (w.heap.size+1) (Array.getElem?_eq_some_iff.1 v2).1).trans v2;have cn3:W3.cell? ⟨w.heap.size,0,none⟩=some (.string s):=bx_cell n3 0;have dv3:=bx8 v3;clear hP q1 q2 q3 q4) |(gi_at_call 39;refine(callsIn_wide.2 (kV.run _ hh3 hg)).mono ?_;rintro e W4 hP;obtain⟨_,hm4,rfl,q1,q2,q3,q4,rfl⟩:=post_ret hP;have hb4:=hb3.trans (q1.mono hb3.size);have hh4:=hh3.below q1;have n4:=(q1.block w.heap.size (Array.getElem?_eq_some_iff.1 n3).1).trans n3;have v4:=(q1.block (w.heap.size+1) (Array.getElem?_eq_some_iff.1 v3).1).trans v3;have cn4:W4.cell? ⟨w.heap.size,0,none⟩=some (.string s):=bx_cell n4 0;have dv4:=bx8 v4;clear hP q1 q2 q3 q4))
   exact⟨_,results_tmp2 rfl _ _ _,post_done hb4 hh4 rfl⟩
  | true=>
   rw[e2] at kV
   by_cases e4:ee=0
   ·subst e4
    cases be with
    | true=>
     gi_wp2_with (first |(gi_at_call 37;refine(callsIn_wide.2 (kN.run _ hh1 hg)).mono ?_;rintro e W2 hP;obtain⟨_,hm,rfl,q1,q2,q3,q4,rfl⟩:=post_ret hP;have hb2:=hb1.trans (q1.mono hb1.size);have hh2:=hh1.below q1;have n2:=(q1.block w.heap.size (by simp;omega)).trans n1;have v2:=(q1.block (w.heap.size+1) (by simp)).trans v1;have dv2:=bx8 v2;clear hP q1 q2 q3 q4) |(gi_at_call 38;refine(callsIn_wide.2 (kE.run _ hh2 hg)).mono ?_;rintro e W3 hP;obtain⟨_,hm3,rfl,q1,q2,q3,q4,rfl⟩:=post_ret hP;have hb3:=hb2.trans (q1.mono hb2.size);have hh3:=hh2.below q1;have n3:=(q1.block w.heap.size (Array.getElem?_eq_some_iff.1 n2).1).trans n2;have v3:=(q1.block (w.heap.size+1) (Array.getElem?_eq_some_iff.1 v2).1).trans v2;have cn3:W3.cell? ⟨w.heap.size,0,none⟩=some (.string s):=bx_cell n3 0;have dv3:=bx8 v3;clear hP q1 q2 q3 q4) |(gi_at_call 39;refine(callsIn_wide.2 (kV.run _ hh3 hg)).mono ?_;rintro e W4 hP;obtain⟨_,hm4,rfl,q1,q2,q3,q4,rfl⟩:=post_ret hP;have hb4:=hb3.trans (q1.mono hb3.size);have hh4:=hh3.below q1;have n4:=(q1.block w.heap.size (Array.getElem?_eq_some_iff.1 n3).1).trans n3;have v4:=(q1.block (w.heap.size+1) (Array.getElem?_eq_some_iff.1 v3).1).trans v3;have cn4:W4.cell? ⟨w.heap.size,0,none⟩=some (.string s):=bx_cell n4 0;have dv4:=bx8 v4;clear hP q1 q2 q3 q4))
     exact⟨_,results_tmp2 rfl _ _ _,post_done hb4 hh4 rfl⟩
    | false =>
     have hyb:y.big=false:=by
      cases gb:y.big with
      |false=>rfl
      |true=>unfold putG at eG;rw[gb] at eG;cases eG
     cases e3:fnd l s with
     | none=>
      rw[e3] at kI
      gi_wp2_with (first |(gi_at_call 37;refine(callsIn_wide.2 (kN.run _ hh1 hg)).mono ?_;rintro e W2 hP;obtain⟨_,hm,rfl,q1,q2,q3,q4,rfl⟩:=post_ret hP;have hb2:=hb1.trans (q1.mono hb1.size);have hh2:=hh1.below q1;have n2:=(q1.block w.heap.size (by simp;omega)).trans n1;have v2:=(q1.block (w.heap.size+1) (by simp)).trans v1;have dv2:=bx8 v2;clear hP q1 q2 q3 q4) |(gi_at_call 38;refine(callsIn_wide.2 (kE.run _ hh2 hg)).mono ?_;rintro e W3 hP;obtain⟨_,hm3,rfl,q1,q2,q3,q4,rfl⟩:=post_ret hP;have hb3:=hb2.trans (q1.mono hb2.size);have hh3:=hh2.below q1;have n3:=(q1.block w.heap.size (Array.getElem?_eq_some_iff.1 n2).1).trans n2;have v3:=(q1.block (w.heap.size+1) (Array.getElem?_eq_some_iff.1 v2).1).trans v2;have cn3:W3.cell? ⟨w.heap.size,0,none⟩=some (.string s):=bx_cell n3 0;have dv3:=bx8 v3;clear hP q1 q2 q3 q4) |(gi_at_call 39;refine(callsIn_wide.2 (kV.run _ hh3 hg)).mono ?_;rintro e W4 hP;obtain⟨_,hm4,rfl,q1,q2,q3,q4,rfl⟩:=post_ret hP;have hb4:=hb3.trans (q1.mono hb3.size);have hh4:=hh3.below q1;have n4:=(q1.block w.heap.size (Array.getElem?_eq_some_iff.1 n3).1).trans n3;have v4:=(q1.block (w.heap.size+1) (Array.getElem?_eq_some_iff.1 v3).1).trans v3;have cn4:W4.cell? ⟨w.heap.size,0,none⟩=some (.string s):=bx_cell n4 0;have dv4:=bx8 v4;clear hP q1 q2 q3 q4) |(gi_at_call 40;refine(callsIn_wide.2 (kI.run _ hh4 hg)).mono ?_;rintro e W5 hP;obtain⟨_,hm5,rfl,q1,q2,q3,q4,rfl⟩:=post_ret hP;have hb5:=hb4.trans (q1.mono hb4.size);have hh5:=hh4.below q1;have n5:=(q1.block w.heap.size (Array.getElem?_eq_some_iff.1 n4).1).trans n4;have v5:=(q1.block (w.heap.size+1) (Array.getElem?_eq_some_iff.1 v4).1).trans v4;have cn5:W5.cell? ⟨w.heap.size,0,none⟩=some (.string s):=bx_cell n5 0;have dv5:=bx8 v5;clear hP q1 q2 q3 q4))
      exact⟨_,results_tmp2 rfl _ _ _,post_done hb5 hh5 rfl⟩
     | some k=>
      rw[e3] at kI
      have hk:decide ((k:Int) < 0)=false:=decide_eq_false (by omega)
      have hf:y.fin (.ok y.set)=.ok y.set:=by
       unfold RI.fin
       rw[hyb,cond_false]
       unfold Out.fin
       dsimp only
       rw[decide_eq_true (RI.le hyb),cond_true]
      rw[hf] at kC
      unfold Ir at kC
      gi_wp2_with (first |(gi_at_call 37;refine(callsIn_wide.2 (kN.run _ hh1 hg)).mono ?_;rintro e W2 hP;obtain⟨_,hm,rfl,q1,q2,q3,q4,rfl⟩:=post_ret hP;have hb2:=hb1.trans (q1.mono hb1.size);have hh2:=hh1.below q1;have n2:=(q1.block w.heap.size (by simp;omega)).trans n1;have v2:=(q1.block (w.heap.size+1) (by simp)).trans v1;have dv2:=bx8 v2;clear hP q1 q2 q3 q4) |(gi_at_call 38;refine(callsIn_wide.2 (kE.run _ hh2 hg)).mono ?_;rintro e W3 hP;obtain⟨_,hm3,rfl,q1,q2,q3,q4,rfl⟩:=post_ret hP;have hb3:=hb2.trans (q1.mono hb2.size);have hh3:=hh2.below q1;have n3:=(q1.block w.heap.size (Array.getElem?_eq_some_iff.1 n2).1).trans n2;have v3:=(q1.block (w.heap.size+1) (Array.getElem?_eq_some_iff.1 v2).1).trans v2;have cn3:W3.cell? ⟨w.heap.size,0,none⟩=some (.string s):=bx_cell n3 0;have dv3:=bx8 v3;clear hP q1 q2 q3 q4) |(gi_at_call 39;refine(callsIn_wide.2 (kV.run _ hh3 hg)).mono ?_;rintro e W4 hP;obtain⟨_,hm4,rfl,q1,q2,q3,q4,rfl⟩:=post_ret hP;have hb4:=hb3.trans (q1.mono hb3.size);have hh4:=hh3.below q1;have n4:=(q1.block w.heap.size (Array.getElem?_eq_some_iff.1 n3).1).trans n3;have v4:=(q1.block (w.heap.size+1) (Array.getElem?_eq_some_iff.1 v3).1).trans v3;have cn4:W4.cell? ⟨w.heap.size,0,none⟩=some (.string s):=bx_cell n4 0;have dv4:=bx8 v4;clear hP q1 q2 q3 q4) |(gi_at_call 40;refine(callsIn_wide.2 (kI.run _ hh4 hg)).mono ?_;rintro e W5 hP;obtain⟨_,hm5,rfl,q1,q2,q3,q4,rfl⟩:=post_ret hP;have hb5:=hb4.trans (q1.mono hb4.size);have hh5:=hh4.below q1;have n5:=(q1.block w.heap.size (Array.getElem?_eq_some_iff.1 n4).1).trans n4;have v5:=(q1.block (w.heap.size+1) (Array.getElem?_eq_some_iff.1 v4).1).trans v4;have cn5:W5.cell? ⟨w.heap.size,0,none⟩=some (.string s):=bx_cell n5 0;have dv5:=bx8 v5;clear hP q1 q2 q3 q4) |(gi_at_call 41;refine(callsIn_wide.2 (kC.run _ hh5 hg)).mono ?_;rintro e W6 hP;obtain⟨_,hm6,rfl,q1,q2,q3,q4,u6,rfl,hC6⟩:=post_ret hP;have hb6:=hb5.trans (q1.mono hb5.size);have hh6:=hh5.below q1;have n6:=(q1.block w.heap.size (Array.getElem?_eq_some_iff.1 n5).1).trans n5;have v6:=(q1.block (w.heap.size+1) (Array.getElem?_eq_some_iff.1 v5).1).trans v5;have cn6:W6.cell? ⟨w.heap.size,0,none⟩=some (.string s):=bx_cell n6 0;have dv6:=bx8 v6;obtain⟨b_1,b_2,b_3,b_4,b_5,b_6,b_7,b_8,b_9,b_10,b_11,b_12,b_13,b_14,b_15,b_16,rfl,hC6⟩:=hC6.sa;have hc6:=priv_of_new hw q4) |(gi_at_call 42;refine(sides_in (n:=7)).mono ?_;rintro e w2 ⟨rfl,rfl⟩))
      obtain⟨W0,hW0⟩:∃W0,((W6.alloc (.cells #[.bool b_1,.slice b_2 b_3 b_4,.slice b_5 b_6 b_7,.bool b_8,.slice b_9 b_10 b_11,.slice b_12 b_13 b_14,.bool b_15,.bool b_16] 27)).alloc (.cells #[.slice none 0 0] 22)).alloc (.cells #[.slice va l.length vc] 22)=W0:=⟨_,rfl⟩
      rw[hW0]
      have hw6:w.heap.size+1 < W5.heap.size:=(Array.getElem?_eq_some_iff.1 v5).1
      have hw6':=q1.size
      have h66:∀k,W6.heap.size≤k→hm6 k=none:=fun k hk=>by
       cases ex:hm6 k with
       |none=>rfl
       |some cs=>have:=q2.lt ex;omega
      have hba:Below W6.heap.size W6 W0:=by
       rw[←hW0]
       exact(((Below.refl _ W6).alloc (η _) _).alloc (by simp) _).alloc (by simp;omega) _
      have hb0:Below w.heap.size w W0:=hb6.trans (hba.mono (by omega))
      have hs0:W0.heap.size=W6.heap.size+3:=by rw[←hW0];simp
      have b3:W0.heap[W6.heap.size+1+1]?=some (.cells #[.slice va l.length vc] 22 (0,0)):=by
       rw[←hW0];simpa using World.alloc_heap_new ((W6.alloc (.cells #[.bool b_1,.slice b_2 b_3 b_4,.slice b_5 b_6 b_7,.bool b_8,.slice b_9 b_10 b_11,.slice b_12 b_13 b_14,.bool b_15,.bool b_16] 27)).alloc (.cells #[.slice none 0 0] 22)) (.cells #[.slice va l.length vc] 22)
      have b2:Boxed W0 (W6.heap.size+1) 22 (.slice none 0 0):=by
       rw[←hW0];exact(by simpa using Boxed.new (W6.alloc (.cells #[.bool b_1,.slice b_2 b_3 b_4,.slice b_5 b_6 b_7,.bool b_8,.slice b_9 b_10 b_11,.slice b_12 b_13 b_14,.bool b_15,.bool b_16] 27)) 22 (.slice none 0 0):Boxed _ (W6.heap.size+1) _ _).alloc _
      have b4:W0.heap[W6.heap.size]?=some (.cells #[.bool b_1,.slice b_2 b_3 b_4,.slice b_5 b_6 b_7,.bool b_8,.slice b_9 b_10 b_11,.slice b_12 b_13 b_14,.bool b_15,.bool b_16] 27 (0,0)):=by
       rw[←hW0,Below.heap_alloc _ _ _ (by simp;omega),Below.heap_alloc _ _ _ (by simp)];exact World.alloc_heap_new W6 _
      have b1:W0.heap[w.heap.size]?=some (.cells #[.string s] 9 (0,0)):=(hba.block _ (by omega)).trans n6
      have hw0:Has W0 hm6:=q2.below hba
      have hi6:Iv hm6 (.agg #[.bool b_1,.slice b_2 b_3 b_4,.slice b_5 b_6 b_7,.bool b_8,.slice b_9 b_10 b_11,.slice b_12 b_13 b_14,.bool b_15,.bool b_16]) y.set.ri:=hC6.iv (RI.le hyb)
      have hn6:New w.heap.size h hm6:=fun k hk=>(q4 k hk).imp id (fun g=>by omega)
      generalize hN:W6.heap.size=N at*
      clear hW0 hba
      refine range_x (n:=8) hro (by decide) (gf:=96) (lb:=#[.pointer (some ⟨N+1+1,0,none⟩)]) rfl trivial (enters_of Tryz.func96 (by kernel_rfl) rfl)
       kX (fun W hb=>⟨fun b cs hx=>hw0.below hb b cs (q3 _ _ hx),(hb.block _ (by omega)).trans b3⟩) (fun _=>rfl)
       (putI w h l s y #[.bool b_1,.slice b_2 b_3 b_4,.slice b_5 b_6 b_7,.bool b_8,.slice b_9 b_10 b_11,.slice b_12 b_13 b_14,.bool b_15,.bool b_16] va vc N) (fun _ _=>False)
       (fun _ _ _ _ ⟨⟨hp,u,c,q⟩,g⟩ hg hr=>⟨⟨hp,u,c.kept hg fun r e=>⟨χ (by omega) (hr r e).1,(hr r e).2⟩,q⟩,g⟩) (fun _ _ _ _ hs _ _=>hs) (fun i W ⟨⟨hp,u,c,_⟩,_⟩=>⟨fun b cs hx=>c.has b cs (c.sub _ _ hx),(c.rest _ (List.mem_cons_of_mem _ (List.mem_cons_of_mem _ (qAt ..)))).1⟩)
       ⟨⟨hm6,_,Col.start2 q3 hw0 hn6 hb0 b2 (h66 _ (by omega)) (fun x hx=>by
        rcases List.mem_cons.1 hx with rfl |hx
        ·exact⟨b1,η _,by show w.heap.size≠_;omega,hc6 _ (η _) (by omega)⟩
        ·rcases List.mem_cons.1 hx with rfl |hx
         ·exact⟨b4,by show _≤N;omega,by show N≠_;omega,h66 _ (η _)⟩
         ·obtain rfl:=qBc.1 hx
          exact⟨b3,by show _≤N+1+1;omega,by show N+1+1≠_;omega,h66 _ (by show N≤N+1+1;omega)⟩),hi6⟩,trivial⟩
       (putM w h l s y #[.bool y.n1,.slice a1 m1 c1,.slice a2 m2 c2,.bool y.n2,.slice a3 m3 c3,.slice a4 m4 c4,.bool y.l,.bool y.u] #[.bool b_1,.slice b_2 b_3 b_4,.slice b_5 b_6 b_7,.bool b_8,.slice b_9 b_10 b_11,.slice b_12 b_13 b_14,.bool b_15,.bool b_16] va vc N k)
       (fun i x a' _ _ _ _ ⟨⟨hp,u,Bx,s,c,q⟩,g⟩ hg hr=>⟨⟨hp,u,Bx,s,c.kept hg fun r e=>⟨χ (by omega) (hr r e).1,(hr r e).2⟩,q⟩,g⟩)
       ?assign ?body ?done ?stop
      case assign=>
       clear kN kV kI kE kC dv2 dv3 dv4 dv5 dv6 cn3 cn4 cn5 cn6 n1 n2 n3 n4 n5 n6 v1 v2 v3 v4 v5 v6 hb1 hb2 hb3 hb4 hb5 hb6 hh1 hh2 hh3 hh4 hh5 hh6 hC6 hc6 q1 q2 q4 h66 hi6 hn6 hw0 b1 b2 b3 b4 kX
       rintro lr i ⟨xi,xl⟩ Wa W hi ⟨⟨hp,u,c,hci⟩,_⟩ hgr _ ⟨rfl,⟨p1,p2,p3,p4,p5,p6,p7,p8,p9,p10,p11,p12,p13,p14,p15,p16,rfl⟩,hn,x',h1,h2,h3,h4,h5⟩
       obtain⟨hj,c2,j2,j3⟩:=c.meet hgr h2 h3 h4 qs_up
       haveI:Le hn hj:=⟨j2⟩
       haveI:Le hp hj:=⟨j3⟩
       dsimp only
       gi_wp2
       refine⟨(KeepsOthers.alloc _ _).from _,?_⟩
       unfold putM
       exact⟨⟨hj,u,_,x',c2.push _ _,hci.to,h1,h5.to,rfl⟩,rfl,⟨_,_,_,_,_,_,_,_,_,_,_,_,_,_,_,_,rfl⟩⟩
      case body =>
       clear kN kV kI kE kC dv2 dv3 dv4 dv5 dv6 cn3 cn4 cn5 cn6 n1 n2 n3 n4 n5 n6 v1 v2 v3 v4 v5 v6 hb1 hb2 hb3 hb4 hb5 hb6 hh1 hh2 hh3 hh4 hh5 hh6 hC6 hc6 q1 q2 q4 h66 hi6 hn6 hw0 b1 b2 b3 b4 kX
       rintro lr i ⟨xi,xl⟩ a' W hi ⟨⟨hp,u,Bx,x',c,hci,h1,h5,rfl⟩,rfl,⟨p1,p2,p3,p4,p5,p6,p7,p8,p9,p10,p11,p12,p13,p14,p15,p16,rfl⟩⟩
       dsimp only at c h5 ⊢
       have hBx:=(c.rest _ (qAt ..)).1
       dsimp only at hBx
       have d0:=bx_cell hBx 0
       have d1:=bx_cell hBx 1
       have d2:=bx_cell hBx 2
       have d3:=bx_cell hBx 3
       have d4:=bx_cell hBx 4
       have d5:=bx_cell hBx 5
       have d6:=bx_cell hBx 6
       have d7:=bx_cell hBx 7
       have d8:=bx_cell hBx 8
       simp only[List.getElem?_toArray,List.getElem?_cons_zero,List.getElem?_cons_succ] at d0 d1 d2 d3 d4 d5 d6 d7 d8
       have dN:W.cell? ⟨w.heap.size,0,none⟩=some (.string s):=bx_cell (c.rest _ (List.mem_cons_of_mem _ (qAt ..))).1 0
       have hn:nmAt l xi=x'.1:=by unfold nmAt;rw[h1];rfl
       have h6:l.length≤6:=by
        unfold okB at e2
        rw[φ] at e2
        exact of_decide_eq_true e2.1
       obtain⟨e0,i0,z0,hU,hi0,hz0,hz1,hz2,_,hy1,hy2⟩:=mkN_some (P:=Tryz.prog) (T:=22) (sz:=9) (by kernel_rfl)
       obtain rfl:e0=82:=by have:=hU.symm.trans Tryz.underlying22;simpa using this
       have hlen:((l.take xi).map (putS s y)).length≤6:=by simp;omega
       have eT:=map_take (f:=putS s y) h1
       cases eK:(x'.1.toList == s.toList) with
       | false=>
        have eP:putS s y x'=x':=by unfold putS;rw[eK];rfl
        rw[eP] at eT
        have rB:=c.box.cell
        obtain⟨xs,hx,hR⟩:=c.row
        gi_wp2_with (gi_at_builtin;refine wpListIn_append_own_at _ rfl _ _ 22 rfl w.heap.size 82 i0 z0 9 i0.bytes hU hi0 hz0 hz1 rfl hz2 (by decide) u _ xs rfl (hx.alloc _) ⟨W.heap.size,0,none⟩ 1 1 [.string x'.1,.bool p1,.slice p2 p3 p4,.slice p5 p6 p7,.bool p8,.slice p9 p10 p11,.slice p12 p13 p14,.bool p15,.bool p16] rfl rfl ?_ (by simp[Value.oneCell']) (by unfold maxLen;omega) ?_ ?_ ?_)
        ·exact χ (qAk (Nat.succ_le_succ (χ (Nat.min_le_left _ _) (by omega:xi≤6))) hy2) (by decide)
        ·have:=c.below.size
         omega
        ·intro v' w1 hown hgrow _ hat
         obtain⟨g',cap',e'⟩:=ownsRow_succ hown
         obtain⟨k1,k2,k3⟩:=c.app (s:=x') (cs:=[.string x'.1,.bool p1,.slice p2 p3 p4,.slice p5 p6 p7,.bool p8,.slice p9 p10 p11,.slice p12 p13 p14,.bool p15,.bool p16]) (by decide) (by omega) hx hR rfl ⟨_,rfl,rfl,h5⟩ (by simpa using hown) hgrow (by simpa using hat)
         rw[←eT] at k2
         have e1:=k1.cell
         have e2:=k1.frozen
         subst e'
         gi_wp2
         refine⟨k3.from _,?_⟩
         unfold putI
         exact⟨⟨hp,_,k2.less fun x hx=>List.mem_cons_of_mem _ hx,hci⟩,trivial⟩
       | true=>
        have eP:putS s y x'=(x'.1,y.set.ri):=by unfold putS;rw[eK];rfl
        rw[eP] at eT
        have hc8:=bx8 (c.rest _ (List.mem_cons_of_mem _ (List.mem_cons_of_mem _ (qAt ..)))).1
        have hne:Hid (∀x∈([(w.heap.size,#[.string s],9),(N,#[.bool b_1,.slice b_2 b_3 b_4,.slice b_5 b_6 b_7,.bool b_8,.slice b_9 b_10 b_11,.slice b_12 b_13 b_14,.bool b_15,.bool b_16],27),(N+1+1,#[.slice va l.length vc],22)]:List (Nat×Array Value×TypeId)),x∈((Bx,#[.string (nmAt l xi),.bool p1,.slice p2 p3 p4,.slice p5 p6 p7,.bool p8,.slice p9 p10 p11,.slice p12 p13 p14,.bool p15,.bool p16],82) :: [(w.heap.size,#[.string s],9),(N,#[.bool b_1,.slice b_2 b_3 b_4,.slice b_5 b_6 b_7,.bool b_8,.slice b_9 b_10 b_11,.slice b_12 b_13 b_14,.bool b_15,.bool b_16],27),(N+1+1,#[.slice va l.length vc],22)]:List (Nat×Array Value×TypeId))∧x.1≠Bx):=show ∀x∈_,_ from fun x hx=>⟨List.mem_cons_of_mem _ hx,fun e=>by
         have q:=(c.rest x (List.mem_cons_of_mem _ hx)).1
         rw[e,hBx] at q
         rcases List.mem_cons.1 hx with rfl |hx
         ·simp at q
         ·rcases List.mem_cons.1 hx with rfl |hx
          ·simp at q
          ·obtain rfl:=qBc.1 hx
           simp at q⟩
        gi_wp2_with (with_reducible refine at_store ?_;refine Hid.out ?_)
        change wpListIn _ _ _ _ _ _ _ _
        refine wpListIn_store_box (M:=mach) rfl Bx 1 [.bool b_1,.slice b_2 b_3 b_4,.slice b_5 b_6 b_7,.bool b_8,.slice b_9 b_10 b_11,.slice b_12 b_13 b_14,.bool b_15,.bool b_16] #[.string (nmAt l xi),.bool p1,.slice p2 p3 p4,.slice p5 p6 p7,.bool p8,.slice p9 p10 p11,.slice p12 p13 p14,.bool p15,.bool p16] rfl rfl rfl rfl (show tk mach.P 27=some (some 8) by kernel_rfl) rfl rfl hBx (by simp) ?_
        intro W2 hB2 hg2
        have hB3:W2.heap[Bx]?=some (.cells #[.string (nmAt l xi),.bool b_1,.slice b_2 b_3 b_4,.slice b_5 b_6 b_7,.bool b_8,.slice b_9 b_10 b_11,.slice b_12 b_13 b_14,.bool b_15,.bool b_16] 82 (0,0)):=hB2
        have d0:=bx_cell hB3 0
        have d1:=bx_cell hB3 1
        have d2:=bx_cell hB3 2
        have d3:=bx_cell hB3 3
        have d4:=bx_cell hB3 4
        have d5:=bx_cell hB3 5
        have d6:=bx_cell hB3 6
        have d7:=bx_cell hB3 7
        have d8:=bx_cell hB3 8
        simp only[List.getElem?_toArray,List.getElem?_cons_zero,List.getElem?_cons_succ] at d0 d1 d2 d3 d4 d5 d6 d7 d8
        have c2:=c.touch (qAt ..) hg2 hne.out
        have rB:=c2.box.cell
        obtain⟨xs,hx,hR⟩:=c2.row
        gi_wp2_with (gi_at_builtin;refine wpListIn_append_own_at _ rfl _ _ 22 rfl w.heap.size 82 i0 z0 9 i0.bytes hU hi0 hz0 hz1 rfl hz2 (by decide) u _ xs rfl (hx.alloc _) ⟨W2.heap.size,0,none⟩ 1 1 [.string x'.1,.bool b_1,.slice b_2 b_3 b_4,.slice b_5 b_6 b_7,.bool b_8,.slice b_9 b_10 b_11,.slice b_12 b_13 b_14,.bool b_15,.bool b_16] rfl rfl ?_ (by simp[Value.oneCell']) (by unfold maxLen;omega) ?_ ?_ ?_)
        ·exact χ (qAk (Nat.succ_le_succ (χ (Nat.min_le_left _ _) (by omega:xi≤6))) hy2) (by decide)
        ·have:=c2.below.size
         omega
        ·intro v' w1 hown hgrow _ hat
         obtain⟨g',cap',e'⟩:=ownsRow_succ hown
         obtain⟨k1,k2,k3⟩:=c2.app (s:=(x'.1,y.set.ri)) (cs:=[.string x'.1,.bool b_1,.slice b_2 b_3 b_4,.slice b_5 b_6 b_7,.bool b_8,.slice b_9 b_10 b_11,.slice b_12 b_13 b_14,.bool b_15,.bool b_16]) (by decide) (by omega) hx hR rfl ⟨_,rfl,rfl,hci⟩ (by simpa using hown) hgrow (by simpa using hat)
         rw[←eT] at k2
         have e1:=k1.cell
         have e2:=k1.frozen
         subst e'
         gi_wp2
         refine⟨((KeepsOthers.of_grownBy hg2 (fun j o ej hj=>by cases ej;rw[hBx] at hj;cases hj;rfl)).trans k3).from _,?_⟩
         unfold putI
         exact⟨⟨hp,_,k2,hci⟩,trivial⟩
      case done=>
       clear kN kV kI kE kC dv2 dv3 dv4 dv5 dv6 cn3 cn4 cn5 cn6 n1 n2 n3 n4 n5 n6 v1 v2 v3 v4 v5 v6 hb1 hb2 hb3 hb4 hb5 hb6 hh1 hh2 hh3 hh4 hh5 hh6 hC6 hc6 q1 q2 q4 h66 hi6 hn6 hw0 b1 b2 b3 b4 kX
       rintro D W hD ⟨⟨hp,u,c,_⟩,_⟩ hK
       obtain⟨ua,un,uc,rfl⟩:∃a n c,u=.slice a n c:=by
        obtain⟨xs,h1,_⟩:=c.row
        rcases h1.2 with⟨rfl,_⟩ |⟨g,cap,cur,rfl,_⟩
        ·exact⟨_,_,_,rfl⟩
        ·exact⟨_,_,_,rfl⟩
       have e0:=c.box.cell
       gi_wp2
       refine⟨by simp,.inl ⟨_,_,rfl,run_takeDeferred hK,?_⟩⟩
       refine⟨_,results_tmp2 rfl _ _ _,?_⟩
       have c3:=c.kept (grownBy_putObj' _ D (.deferred none)) (fun r e=>by cases e;exact⟨by omega,_,hK,rfl⟩)
       rw[List.take_length] at c3
       obtain⟨hf,m1,m2,m3,a,cap,e,k⟩:=c3.fin (qs_up _)
       exact⟨hf,c3.below,m1,m2,m3,_,rfl,a,cap,e,k⟩
      case stop=>
       rintro D cc W hD hf hK
       exact hf.elim
   ·have e5:(ee != 0)=true:=by simpa using e4
    have e6:(ee == 0)=false:=by simpa using e4
    rw[e6]
    gi_wp2_with (first |(gi_at_call 37;refine(callsIn_wide.2 (kN.run _ hh1 hg)).mono ?_;rintro e W2 hP;obtain⟨_,hm,rfl,q1,q2,q3,q4,rfl⟩:=post_ret hP;have hb2:=hb1.trans (q1.mono hb1.size);have hh2:=hh1.below q1;have n2:=(q1.block w.heap.size (by simp;omega)).trans n1;have v2:=(q1.block (w.heap.size+1) (by simp)).trans v1;have dv2:=bx8 v2;clear hP q1 q2 q3 q4) |(gi_at_call 38;refine(callsIn_wide.2 (kE.run _ hh2 hg)).mono ?_;rintro e W3 hP;obtain⟨_,hm3,rfl,q1,q2,q3,q4,rfl⟩:=post_ret hP;have hb3:=hb2.trans (q1.mono hb2.size);have hh3:=hh2.below q1;have n3:=(q1.block w.heap.size (Array.getElem?_eq_some_iff.1 n2).1).trans n2;have v3:=(q1.block (w.heap.size+1) (Array.getElem?_eq_some_iff.1 v2).1).trans v2;have cn3:W3.cell? ⟨w.heap.size,0,none⟩=some (.string s):=bx_cell n3 0;have dv3:=bx8 v3;clear hP q1 q2 q3 q4) |(gi_at_call 39;refine(callsIn_wide.2 (kV.run _ hh3 hg)).mono ?_;rintro e W4 hP;obtain⟨_,hm4,rfl,q1,q2,q3,q4,rfl⟩:=post_ret hP;have hb4:=hb3.trans (q1.mono hb3.size);have hh4:=hh3.below q1;have n4:=(q1.block w.heap.size (Array.getElem?_eq_some_iff.1 n3).1).trans n3;have v4:=(q1.block (w.heap.size+1) (Array.getElem?_eq_some_iff.1 v3).1).trans v3;have cn4:W4.cell? ⟨w.heap.size,0,none⟩=some (.string s):=bx_cell n4 0;have dv4:=bx8 v4;clear hP q1 q2 q3 q4))
    exact⟨_,results_tmp2 rfl _ _ _,post_done hb4 hh4 rfl⟩
end Go.Q
namespace Go.Q
open Go.Proofs
set_option maxRecDepth 100000
set_option maxHeartbeats 4000000
def sameN (x y:NS):Bool:=bif x.void || y.void then x.void && y.void else (x.loN == y.loN) && (x.hiN == y.hiN) && decide (x.lo0=y.lo0) && decide (x.hi0=y.hi0)
theorem JU {x y:NS}:sameN x y=true↔x=y:=by
 cases x with
 |e=>cases y<;>simp[sameN,NS.void]
 | i a b=>
  cases y with
  |e=>simp[sameN,NS.void]
  | i c d=>
   cases a<;>cases b<;>cases c<;>cases d<;>simp[sameN,NS.void,NS.loN,NS.hiN,NS.lo0,NS.hi0]
   ·exact decide_eq_true_iff
   ·exact decide_eq_true_iff
   ·exact and_congr decide_eq_true_iff decide_eq_true_iff
theorem GE {x y:Rat} (h:x≠y):cmpQ x y≠0:=by unfold cmpQ;grind
theorem RefSame2 {h0 h:PH} [Le h0 h] {v w:Value} {x y:RI} (hv:Iv h0 v x) (hw:Iv h0 w y) (g:x.big=false) (g':y.big=false):Spec mach 89 #[v,w] h (fun r _=>r=.bool (sameN x.set y.set)) NP:=by
 have hz:=(NS.le_ends (by decide)).1 (RI.le g)
 have hz':=(NS.le_ends (by decide)).1 (RI.le g')
 have kA:=fun {h} [Le h0 h]=>RefOf (h:=h) hv g
 have kB:=fun {h} [Le h0 h]=>RefOf (h:=h) hw g'
 obtain⟨a1,m1,c1,a2,m2,c2,a3,m3,c3,a4,m4,c4,rfl,_,_⟩:=hv.sa
 obtain⟨a1',m1',c1',a2',m2',c2',a3',m3',c3',a4',m4',c4',rfl,_,_⟩:=hw.sa
 clear hv hw
 generalize x.set=X at*
 generalize y.set=Y at*
 refine Spec.enter (args:=[_,_]) (n:=51) Tryz.func89 rfl (by kernel_rfl) rfl (by simp) [.tmp 4] rfl (fun C _=>?_)
 repeat (first |(refine rg rfl rfl (fun K hK=>?_);(repeat (first |(refine wo rfl (fun k hk=>?_);simp(disch:=omega) only[go_sem,ξ,ζ];apply hk;clear hk k) |refine wkt rfl ?_));(try refine wk0 ?_);apply hK;clear hK K;(try dsimp only[ag,qs,qb])) |((first |refine ae ?_ |refine ac ?_);simp(disch:=decide) only[qs,qb,if_true,if_false,reduceIte]) |refine ah rfl (fun K hK=>?_) |refine ct rfl ?_ |((first |refine hK _ _ ?_ |(clear hK;refine hK _ _ ?_) |(clear hK;clear hK;refine hK _ _ ?_));clear hK;(try clear K)))
 (first |refine AWP_t (.seg [.o 0,.o 2] (.alt 1 (.alt 3 (.alt 4 (.alt 5 (.alt 6 (.alt 7 .done .no) .no) .no) (.alt 5 (.alt 4 (.alt 6 (.alt 7 .done .no) .no) .no) .no)) (.alt 4 (.alt 3 (.alt 5 (.alt 6 (.alt 7 .done .no) .no) .no) (.alt 5 (.alt 3 (.alt 6 (.alt 7 .done .no) .no) .no) .no)) (.alt 5 (.alt 3 (.alt 4 (.alt 6 (.alt 7 .done .no) .no) .no) (.alt 4 (.alt 3 (.alt 6 (.alt 7 .done .no) .no) .no) .no)) .no))) (.alt 4 (.alt 1 (.alt 3 (.alt 5 (.alt 6 (.alt 7 .done .no) .no) .no) (.alt 5 (.alt 3 (.alt 6 (.alt 7 .done .no) .no) .no) .no)) (.alt 5 (.alt 1 (.alt 3 (.alt 6 (.alt 7 .done .no) .no) .no) .no) .no)) (.alt 5 (.alt 1 (.alt 3 (.alt 4 (.alt 6 (.alt 7 .done .no) .no) .no) (.alt 4 (.alt 3 (.alt 6 (.alt 7 .done .no) .no) .no) .no)) (.alt 4 (.alt 1 (.alt 3 (.alt 6 (.alt 7 .done .no) .no) .no) .no) .no)) .no)))) (by decide+kernel) rfl (fun K hK=>?_) |refine mR (.seg [.o 0,.o 2] (.alt 1 (.alt 3 (.alt 4 (.alt 5 (.alt 6 (.alt 7 .done .no) .no) .no) (.alt 5 (.alt 4 (.alt 6 (.alt 7 .done .no) .no) .no) .no)) (.alt 4 (.alt 3 (.alt 5 (.alt 6 (.alt 7 .done .no) .no) .no) (.alt 5 (.alt 3 (.alt 6 (.alt 7 .done .no) .no) .no) .no)) (.alt 5 (.alt 3 (.alt 4 (.alt 6 (.alt 7 .done .no) .no) .no) (.alt 4 (.alt 3 (.alt 6 (.alt 7 .done .no) .no) .no) .no)) .no))) (.alt 4 (.alt 1 (.alt 3 (.alt 5 (.alt 6 (.alt 7 .done .no) .no) .no) (.alt 5 (.alt 3 (.alt 6 (.alt 7 .done .no) .no) .no) .no)) (.alt 5 (.alt 1 (.alt 3 (.alt 6 (.alt 7 .done .no) .no) .no) .no) .no)) (.alt 5 (.alt 1 (.alt 3 (.alt 4 (.alt 6 (.alt 7 .done .no) .no) .no) (.alt 4 (.alt 3 (.alt 6 (.alt 7 .done .no) .no) .no) .no)) (.alt 4 (.alt 1 (.alt 3 (.alt 6 (.alt 7 .done .no) .no) .no) .no) .no)) .no)))) (by decide+kernel) rfl (fun K hK=>?_))
 suffices rest:∀(cs ds:List Value) (h':PH) (S:AS) (ix:List Nat),Rr h' (.agg cs.toArray) X→Rr h' (.agg ds.toArray) Y→S.leS ⟨[(5,.p 0 0),(6,.p 1 0)],[cs,ds]⟩ ix→K S h' by
  (repeat (first |(refine wo rfl (fun k hk=>?_);simp(disch:=omega) only[go_sem,ξ,ζ];apply hk;clear hk k) |refine wkt rfl ?_ |with_reducible refine wk0 ?_ |with_reducible refine ao ?_ |with_reducible refine aj ?_ wt_no |with_reducible refine ak ?_))
  refine aj ?_ (aj ?_ (aj ?_ wt_no))
  ·refine cN rfl rfl rfl rfl (by exact kA) ?_;rintro v1 h1 st_h1 f1;obtain⟨v1_0,v1_1,v1_2,v1_3,v1_4,v1_5,v1_6,v1_7,v1_8,v1_9,v1_10,v1_11,v1_12,v1_13,rfl,f1⟩:=f1.sa;(repeat (first |(refine wo rfl (fun k hk=>?_);simp(disch:=omega) only[go_sem,ξ,ζ];apply hk;clear hk k) |refine wkt rfl ?_ |with_reducible refine wk0 ?_ |with_reducible refine ao ?_ |with_reducible refine aj ?_ wt_no |with_reducible refine ak ?_))
   refine aj ?_ (aj ?_ (aj ?_ wt_no))
   ·refine cN rfl rfl rfl rfl (by exact kB) ?_;rintro v2 h2 st_h2 f2;obtain⟨v2_0,v2_1,v2_2,v2_3,v2_4,v2_5,v2_6,v2_7,v2_8,v2_9,v2_10,v2_11,v2_12,v2_13,rfl,f2⟩:=f2.sa;(repeat (first |(refine wo rfl (fun k hk=>?_);simp(disch:=omega) only[go_sem,ξ,ζ];apply hk;clear hk k) |refine wkt rfl ?_ |with_reducible refine wk0 ?_ |with_reducible refine ao ?_ |with_reducible refine aj ?_ wt_no |with_reducible refine ak ?_))
    refine aj ?_ (aj ?_ wt_no)
    ·(repeat (first |(refine wo rfl (fun k hk=>?_);simp(disch:=omega) only[go_sem,ξ,ζ];apply hk;clear hk k) |refine wkt rfl ?_ |with_reducible refine wk0 ?_ |with_reducible refine ao ?_ |with_reducible refine aj ?_ wt_no |with_reducible refine ak ?_))
     refine rest _ _ _ _ [2,3] f1.to f2.to ?_
     simp(disch:=omega) only[go_sem,ξ,ζ,aJ,true_or]
    ·(repeat (first |(refine wo rfl (fun k hk=>?_);simp(disch:=omega) only[go_sem,ξ,ζ];apply hk;clear hk k) |refine wkt rfl ?_ |with_reducible refine wk0 ?_ |with_reducible refine ao ?_ |with_reducible refine aj ?_ wt_no |with_reducible refine ak ?_))
     refine rest _ _ _ _ [3,2] f1.to f2.to ?_
     simp(disch:=omega) only[go_sem,ξ,ζ,aJ,true_or]
   ·(repeat (first |(refine wo rfl (fun k hk=>?_);simp(disch:=omega) only[go_sem,ξ,ζ];apply hk;clear hk k) |refine wkt rfl ?_ |with_reducible refine wk0 ?_ |with_reducible refine ao ?_ |with_reducible refine aj ?_ wt_no |with_reducible refine ak ?_))
    refine aj ?_ (aj ?_ wt_no)
    ·refine cN rfl rfl rfl rfl (by exact kB) ?_;rintro v2 h2 st_h2 f2;obtain⟨v2_0,v2_1,v2_2,v2_3,v2_4,v2_5,v2_6,v2_7,v2_8,v2_9,v2_10,v2_11,v2_12,v2_13,rfl,f2⟩:=f2.sa;(repeat (first |(refine wo rfl (fun k hk=>?_);simp(disch:=omega) only[go_sem,ξ,ζ];apply hk;clear hk k) |refine wkt rfl ?_ |with_reducible refine wk0 ?_ |with_reducible refine ao ?_ |with_reducible refine aj ?_ wt_no |with_reducible refine ak ?_))
     refine rest _ _ _ _ [2,3] f1.to f2.to ?_
     simp(disch:=omega) only[go_sem,ξ,ζ,aJ,true_or]
    ·(repeat (first |(refine wo rfl (fun k hk=>?_);simp(disch:=omega) only[go_sem,ξ,ζ];apply hk;clear hk k) |refine wkt rfl ?_ |with_reducible refine wk0 ?_ |with_reducible refine ao ?_ |with_reducible refine aj ?_ wt_no |with_reducible refine ak ?_))
     refine cN rfl rfl rfl rfl (by exact kB) ?_;rintro v2 h2 st_h2 f2;obtain⟨v2_0,v2_1,v2_2,v2_3,v2_4,v2_5,v2_6,v2_7,v2_8,v2_9,v2_10,v2_11,v2_12,v2_13,rfl,f2⟩:=f2.sa;(repeat (first |(refine wo rfl (fun k hk=>?_);simp(disch:=omega) only[go_sem,ξ,ζ];apply hk;clear hk k) |refine wkt rfl ?_ |with_reducible refine wk0 ?_ |with_reducible refine ao ?_ |with_reducible refine aj ?_ wt_no |with_reducible refine ak ?_))
     refine rest _ _ _ _ [2,3] f1.to f2.to ?_
     simp(disch:=omega) only[go_sem,ξ,ζ,aJ,true_or]
   ·(repeat (first |(refine wo rfl (fun k hk=>?_);simp(disch:=omega) only[go_sem,ξ,ζ];apply hk;clear hk k) |refine wkt rfl ?_ |with_reducible refine wk0 ?_ |with_reducible refine ao ?_ |with_reducible refine aj ?_ wt_no |with_reducible refine ak ?_))
    refine aj ?_ (aj ?_ wt_no)
    ·refine cN rfl rfl rfl rfl (by exact kB) ?_;rintro v2 h2 st_h2 f2;obtain⟨v2_0,v2_1,v2_2,v2_3,v2_4,v2_5,v2_6,v2_7,v2_8,v2_9,v2_10,v2_11,v2_12,v2_13,rfl,f2⟩:=f2.sa;(repeat (first |(refine wo rfl (fun k hk=>?_);simp(disch:=omega) only[go_sem,ξ,ζ];apply hk;clear hk k) |refine wkt rfl ?_ |with_reducible refine wk0 ?_ |with_reducible refine ao ?_ |with_reducible refine aj ?_ wt_no |with_reducible refine ak ?_))
     refine rest _ _ _ _ [3,2] f1.to f2.to ?_
     simp(disch:=omega) only[go_sem,ξ,ζ,aJ,true_or]
    ·(repeat (first |(refine wo rfl (fun k hk=>?_);simp(disch:=omega) only[go_sem,ξ,ζ];apply hk;clear hk k) |refine wkt rfl ?_ |with_reducible refine wk0 ?_ |with_reducible refine ao ?_ |with_reducible refine aj ?_ wt_no |with_reducible refine ak ?_))
     refine cN rfl rfl rfl rfl (by exact kB) ?_;rintro v2 h2 st_h2 f2;obtain⟨v2_0,v2_1,v2_2,v2_3,v2_4,v2_5,v2_6,v2_7,v2_8,v2_9,v2_10,v2_11,v2_12,v2_13,rfl,f2⟩:=f2.sa;(repeat (first |(refine wo rfl (fun k hk=>?_);simp(disch:=omega) only[go_sem,ξ,ζ];apply hk;clear hk k) |refine wkt rfl ?_ |with_reducible refine wk0 ?_ |with_reducible refine ao ?_ |with_reducible refine aj ?_ wt_no |with_reducible refine ak ?_))
     refine rest _ _ _ _ [3,2] f1.to f2.to ?_
     simp(disch:=omega) only[go_sem,ξ,ζ,aJ,true_or]
  ·(repeat (first |(refine wo rfl (fun k hk=>?_);simp(disch:=omega) only[go_sem,ξ,ζ];apply hk;clear hk k) |refine wkt rfl ?_ |with_reducible refine wk0 ?_ |with_reducible refine ao ?_ |with_reducible refine aj ?_ wt_no |with_reducible refine ak ?_))
   refine aj ?_ (aj ?_ wt_no)
   ·refine cN rfl rfl rfl rfl (by exact kA) ?_;rintro v1 h1 st_h1 f1;obtain⟨v1_0,v1_1,v1_2,v1_3,v1_4,v1_5,v1_6,v1_7,v1_8,v1_9,v1_10,v1_11,v1_12,v1_13,rfl,f1⟩:=f1.sa;(repeat (first |(refine wo rfl (fun k hk=>?_);simp(disch:=omega) only[go_sem,ξ,ζ];apply hk;clear hk k) |refine wkt rfl ?_ |with_reducible refine wk0 ?_ |with_reducible refine ao ?_ |with_reducible refine aj ?_ wt_no |with_reducible refine ak ?_))
    refine aj ?_ (aj ?_ wt_no)
    ·refine cN rfl rfl rfl rfl (by exact kB) ?_;rintro v2 h2 st_h2 f2;obtain⟨v2_0,v2_1,v2_2,v2_3,v2_4,v2_5,v2_6,v2_7,v2_8,v2_9,v2_10,v2_11,v2_12,v2_13,rfl,f2⟩:=f2.sa;(repeat (first |(refine wo rfl (fun k hk=>?_);simp(disch:=omega) only[go_sem,ξ,ζ];apply hk;clear hk k) |refine wkt rfl ?_ |with_reducible refine wk0 ?_ |with_reducible refine ao ?_ |with_reducible refine aj ?_ wt_no |with_reducible refine ak ?_))
     refine rest _ _ _ _ [2,3] f1.to f2.to ?_
     simp(disch:=omega) only[go_sem,ξ,ζ,aJ,true_or]
    ·(repeat (first |(refine wo rfl (fun k hk=>?_);simp(disch:=omega) only[go_sem,ξ,ζ];apply hk;clear hk k) |refine wkt rfl ?_ |with_reducible refine wk0 ?_ |with_reducible refine ao ?_ |with_reducible refine aj ?_ wt_no |with_reducible refine ak ?_))
     refine cN rfl rfl rfl rfl (by exact kB) ?_;rintro v2 h2 st_h2 f2;obtain⟨v2_0,v2_1,v2_2,v2_3,v2_4,v2_5,v2_6,v2_7,v2_8,v2_9,v2_10,v2_11,v2_12,v2_13,rfl,f2⟩:=f2.sa;(repeat (first |(refine wo rfl (fun k hk=>?_);simp(disch:=omega) only[go_sem,ξ,ζ];apply hk;clear hk k) |refine wkt rfl ?_ |with_reducible refine wk0 ?_ |with_reducible refine ao ?_ |with_reducible refine aj ?_ wt_no |with_reducible refine ak ?_))
     refine rest _ _ _ _ [2,3] f1.to f2.to ?_
     simp(disch:=omega) only[go_sem,ξ,ζ,aJ,true_or]
   ·(repeat (first |(refine wo rfl (fun k hk=>?_);simp(disch:=omega) only[go_sem,ξ,ζ];apply hk;clear hk k) |refine wkt rfl ?_ |with_reducible refine wk0 ?_ |with_reducible refine ao ?_ |with_reducible refine aj ?_ wt_no |with_reducible refine ak ?_))
    refine cN rfl rfl rfl rfl (by exact kA) ?_;rintro v1 h1 st_h1 f1;obtain⟨v1_0,v1_1,v1_2,v1_3,v1_4,v1_5,v1_6,v1_7,v1_8,v1_9,v1_10,v1_11,v1_12,v1_13,rfl,f1⟩:=f1.sa;(repeat (first |(refine wo rfl (fun k hk=>?_);simp(disch:=omega) only[go_sem,ξ,ζ];apply hk;clear hk k) |refine wkt rfl ?_ |with_reducible refine wk0 ?_ |with_reducible refine ao ?_ |with_reducible refine aj ?_ wt_no |with_reducible refine ak ?_))
    refine cN rfl rfl rfl rfl (by exact kB) ?_;rintro v2 h2 st_h2 f2;obtain⟨v2_0,v2_1,v2_2,v2_3,v2_4,v2_5,v2_6,v2_7,v2_8,v2_9,v2_10,v2_11,v2_12,v2_13,rfl,f2⟩:=f2.sa;(repeat (first |(refine wo rfl (fun k hk=>?_);simp(disch:=omega) only[go_sem,ξ,ζ];apply hk;clear hk k) |refine wkt rfl ?_ |with_reducible refine wk0 ?_ |with_reducible refine ao ?_ |with_reducible refine aj ?_ wt_no |with_reducible refine ak ?_))
    refine rest _ _ _ _ [2,3] f1.to f2.to ?_
    simp(disch:=omega) only[go_sem,ξ,ζ,aJ,true_or]
  ·(repeat (first |(refine wo rfl (fun k hk=>?_);simp(disch:=omega) only[go_sem,ξ,ζ];apply hk;clear hk k) |refine wkt rfl ?_ |with_reducible refine wk0 ?_ |with_reducible refine ao ?_ |with_reducible refine aj ?_ wt_no |with_reducible refine ak ?_))
   refine aj ?_ (aj ?_ wt_no)
   ·refine cN rfl rfl rfl rfl (by exact kA) ?_;rintro v1 h1 st_h1 f1;obtain⟨v1_0,v1_1,v1_2,v1_3,v1_4,v1_5,v1_6,v1_7,v1_8,v1_9,v1_10,v1_11,v1_12,v1_13,rfl,f1⟩:=f1.sa;(repeat (first |(refine wo rfl (fun k hk=>?_);simp(disch:=omega) only[go_sem,ξ,ζ];apply hk;clear hk k) |refine wkt rfl ?_ |with_reducible refine wk0 ?_ |with_reducible refine ao ?_ |with_reducible refine aj ?_ wt_no |with_reducible refine ak ?_))
    refine aj ?_ (aj ?_ wt_no)
    ·refine cN rfl rfl rfl rfl (by exact kB) ?_;rintro v2 h2 st_h2 f2;obtain⟨v2_0,v2_1,v2_2,v2_3,v2_4,v2_5,v2_6,v2_7,v2_8,v2_9,v2_10,v2_11,v2_12,v2_13,rfl,f2⟩:=f2.sa;(repeat (first |(refine wo rfl (fun k hk=>?_);simp(disch:=omega) only[go_sem,ξ,ζ];apply hk;clear hk k) |refine wkt rfl ?_ |with_reducible refine wk0 ?_ |with_reducible refine ao ?_ |with_reducible refine aj ?_ wt_no |with_reducible refine ak ?_))
     refine rest _ _ _ _ [3,2] f1.to f2.to ?_
     simp(disch:=omega) only[go_sem,ξ,ζ,aJ,true_or]
    ·(repeat (first |(refine wo rfl (fun k hk=>?_);simp(disch:=omega) only[go_sem,ξ,ζ];apply hk;clear hk k) |refine wkt rfl ?_ |with_reducible refine wk0 ?_ |with_reducible refine ao ?_ |with_reducible refine aj ?_ wt_no |with_reducible refine ak ?_))
     refine cN rfl rfl rfl rfl (by exact kB) ?_;rintro v2 h2 st_h2 f2;obtain⟨v2_0,v2_1,v2_2,v2_3,v2_4,v2_5,v2_6,v2_7,v2_8,v2_9,v2_10,v2_11,v2_12,v2_13,rfl,f2⟩:=f2.sa;(repeat (first |(refine wo rfl (fun k hk=>?_);simp(disch:=omega) only[go_sem,ξ,ζ];apply hk;clear hk k) |refine wkt rfl ?_ |with_reducible refine wk0 ?_ |with_reducible refine ao ?_ |with_reducible refine aj ?_ wt_no |with_reducible refine ak ?_))
     refine rest _ _ _ _ [3,2] f1.to f2.to ?_
     simp(disch:=omega) only[go_sem,ξ,ζ,aJ,true_or]
   ·(repeat (first |(refine wo rfl (fun k hk=>?_);simp(disch:=omega) only[go_sem,ξ,ζ];apply hk;clear hk k) |refine wkt rfl ?_ |with_reducible refine wk0 ?_ |with_reducible refine ao ?_ |with_reducible refine aj ?_ wt_no |with_reducible refine ak ?_))
    refine cN rfl rfl rfl rfl (by exact kA) ?_;rintro v1 h1 st_h1 f1;obtain⟨v1_0,v1_1,v1_2,v1_3,v1_4,v1_5,v1_6,v1_7,v1_8,v1_9,v1_10,v1_11,v1_12,v1_13,rfl,f1⟩:=f1.sa;(repeat (first |(refine wo rfl (fun k hk=>?_);simp(disch:=omega) only[go_sem,ξ,ζ];apply hk;clear hk k) |refine wkt rfl ?_ |with_reducible refine wk0 ?_ |with_reducible refine ao ?_ |with_reducible refine aj ?_ wt_no |with_reducible refine ak ?_))
    refine cN rfl rfl rfl rfl (by exact kB) ?_;rintro v2 h2 st_h2 f2;obtain⟨v2_0,v2_1,v2_2,v2_3,v2_4,v2_5,v2_6,v2_7,v2_8,v2_9,v2_10,v2_11,v2_12,v2_13,rfl,f2⟩:=f2.sa;(repeat (first |(refine wo rfl (fun k hk=>?_);simp(disch:=omega) only[go_sem,ξ,ζ];apply hk;clear hk k) |refine wkt rfl ?_ |with_reducible refine wk0 ?_ |with_reducible refine ao ?_ |with_reducible refine aj ?_ wt_no |with_reducible refine ak ?_))
    refine rest _ _ _ _ [3,2] f1.to f2.to ?_
    simp(disch:=omega) only[go_sem,ξ,ζ,aJ,true_or]
 intro cs ds h' S ix r1 r2 hS
 refine hK _ _ (Gh _ _ hS ?_);clear hK K kA kB
 obtain⟨_,_,_,_,_,_,_,_,_,_,_,_,_,_,e1,p1,p2⟩:=r1.sa
 obtain⟨_,_,_,_,_,_,_,_,_,_,_,_,_,_,e2,p3,p4⟩:=r2.sa
 simp only[Value.agg.injEq,Array.mk.injEq] at e1 e2
 subst e1
 subst e2
 unfold sameN
 have c1:=fun {h} [Le h' h]=>av (h:=h) p1 p3 (by omega) (by omega)
 have c2:=fun {h} [Le h' h]=>av (h:=h) p2 p4 (by omega) (by omega)
 generalize X.void=e at*
 generalize Y.void=e' at*
 cases e with
 | true=>
  cases e'<;>
  ·(repeat (first |(refine rg rfl rfl (fun K hK=>?_);(repeat (first |(refine wo rfl (fun k hk=>?_);simp(disch:=omega) only[go_sem,ξ,ζ];apply hk;clear hk k) |refine wkt rfl ?_));(try refine wk0 ?_);apply hK;clear hK K;(try dsimp only[ag,qs,qb])) |((first |refine ae ?_ |refine ac ?_);simp(disch:=decide) only[qs,qb,if_true,if_false,reduceIte]) |refine ah rfl (fun K hK=>?_) |refine ct rfl ?_ |((first |refine hK _ _ ?_ |(clear hK;refine hK _ _ ?_) |(clear hK;clear hK;refine hK _ _ ?_));clear hK;(try clear K))))
   refine ai ?_;simp(disch:=omega) only[go_sem,ξ,ζ]
   all_goals first |rfl |simp
 | false =>
  cases e' with
  | true=>
   (repeat (first |(refine rg rfl rfl (fun K hK=>?_);(repeat (first |(refine wo rfl (fun k hk=>?_);simp(disch:=omega) only[go_sem,ξ,ζ];apply hk;clear hk k) |refine wkt rfl ?_));(try refine wk0 ?_);apply hK;clear hK K;(try dsimp only[ag,qs,qb])) |((first |refine ae ?_ |refine ac ?_);simp(disch:=decide) only[qs,qb,if_true,if_false,reduceIte]) |refine ah rfl (fun K hK=>?_) |refine ct rfl ?_ |((first |refine hK _ _ ?_ |(clear hK;refine hK _ _ ?_) |(clear hK;clear hK;refine hK _ _ ?_));clear hK;(try clear K))))
   refine ai ?_;simp(disch:=omega) only[go_sem,ξ,ζ]
   all_goals first |rfl |simp
  | false =>
   simp only[Bool.or_self,cond_false]
   generalize X.loN=l at*
   generalize Y.loN=l' at*
   generalize X.hiN=u at*
   generalize Y.hiN=u' at*
   generalize X.lo0=q1 at*
   generalize Y.lo0=q1' at*
   generalize X.hi0=q2 at*
   generalize Y.hi0=q2' at*
   by_cases hl:l=l'
   ·subst hl
    by_cases hu:u=u'
    ·subst hu
     by_cases e1:q1=q1'
     ·subst e1
      have k1:=mI q1
      by_cases e2:q2=q2'
      ·subst e2
       have k2:=mI q2
       cases l<;>cases u<;>
       ·simp only[decide_true]
        (repeat (first |(refine rg rfl rfl (fun K hK=>?_);(repeat (first |(refine wo rfl (fun k hk=>?_);simp(disch:=omega) only[go_sem,ξ,ζ];apply hk;clear hk k) |refine wkt rfl ?_));(try refine wk0 ?_);apply hK;clear hK K;(try dsimp only[ag,qs,qb])) |((first |refine ae ?_ |refine ac ?_);simp(disch:=decide) only[qs,qb,if_true,if_false,reduceIte]) |refine ah rfl (fun K hK=>?_) |refine ct rfl ?_ |((first |refine hK _ _ ?_ |(clear hK;refine hK _ _ ?_) |(clear hK;clear hK;refine hK _ _ ?_));clear hK;(try clear K))));(refine rg rfl rfl (fun K hK=>?_);(repeat (first |(refine wo rfl (fun k hk=>?_);simp(disch:=omega) only[go_sem,ξ,ζ];apply hk;clear hk k) |refine wkt rfl ?_ |with_reducible refine wk0 ?_ |with_reducible refine ao ?_ |with_reducible refine aj ?_ wt_no |with_reducible refine ak ?_)))
        refine cN rfl rfl rfl rfl (by exact c1) ?_;rintro v1 h1 s1 rfl;(repeat (first |(refine wo rfl (fun k hk=>?_);simp(disch:=omega) only[go_sem,ξ,ζ];apply hk;clear hk k) |refine wkt rfl ?_ |with_reducible refine wk0 ?_ |with_reducible refine ao ?_ |with_reducible refine aj ?_ wt_no |with_reducible refine ak ?_))
        refine cN rfl rfl rfl rfl (by exact c2) ?_;rintro v2 h2 s2 rfl;(repeat (first |(refine wo rfl (fun k hk=>?_);simp(disch:=omega) only[go_sem,ξ,ζ];apply hk;clear hk k) |refine wkt rfl ?_ |with_reducible refine wk0 ?_ |with_reducible refine ao ?_ |with_reducible refine aj ?_ wt_no |with_reducible refine ak ?_))
        (try (simp(disch:=omega) only[go_sem,ξ,ζ]));apply hK;clear hK;(try clear K);(try dsimp only[ag,qs])
        refine ai ?_;simp(disch:=omega) only[go_sem,ξ,ζ]
        all_goals first |rfl |simp
      ·have k2:=GE e2
       cases l<;>cases u<;>
       ·simp only[e2,decide_true,decide_false]
        (repeat (first |(refine rg rfl rfl (fun K hK=>?_);(repeat (first |(refine wo rfl (fun k hk=>?_);simp(disch:=omega) only[go_sem,ξ,ζ];apply hk;clear hk k) |refine wkt rfl ?_));(try refine wk0 ?_);apply hK;clear hK K;(try dsimp only[ag,qs,qb])) |((first |refine ae ?_ |refine ac ?_);simp(disch:=decide) only[qs,qb,if_true,if_false,reduceIte]) |refine ah rfl (fun K hK=>?_) |refine ct rfl ?_ |((first |refine hK _ _ ?_ |(clear hK;refine hK _ _ ?_) |(clear hK;clear hK;refine hK _ _ ?_));clear hK;(try clear K))));(refine rg rfl rfl (fun K hK=>?_);(repeat (first |(refine wo rfl (fun k hk=>?_);simp(disch:=omega) only[go_sem,ξ,ζ];apply hk;clear hk k) |refine wkt rfl ?_ |with_reducible refine wk0 ?_ |with_reducible refine ao ?_ |with_reducible refine aj ?_ wt_no |with_reducible refine ak ?_)))
        refine cN rfl rfl rfl rfl (by exact c1) ?_;rintro v1 h1 s1 rfl;(repeat (first |(refine wo rfl (fun k hk=>?_);simp(disch:=omega) only[go_sem,ξ,ζ];apply hk;clear hk k) |refine wkt rfl ?_ |with_reducible refine wk0 ?_ |with_reducible refine ao ?_ |with_reducible refine aj ?_ wt_no |with_reducible refine ak ?_))
        refine cN rfl rfl rfl rfl (by exact c2) ?_;rintro v2 h2 s2 rfl;(repeat (first |(refine wo rfl (fun k hk=>?_);simp(disch:=omega) only[go_sem,ξ,ζ];apply hk;clear hk k) |refine wkt rfl ?_ |with_reducible refine wk0 ?_ |with_reducible refine ao ?_ |with_reducible refine aj ?_ wt_no |with_reducible refine ak ?_))
        (try (simp(disch:=omega) only[go_sem,ξ,ζ]));apply hK;clear hK;(try clear K);(try dsimp only[ag,qs])
        refine ai ?_;simp(disch:=omega) only[go_sem,ξ,ζ]
        all_goals first |rfl |simp
     ·have k1:=GE e1
      cases l<;>cases u<;>
      ·simp only[e1,decide_false,Bool.and_false,Bool.false_and]
       (repeat (first |(refine rg rfl rfl (fun K hK=>?_);(repeat (first |(refine wo rfl (fun k hk=>?_);simp(disch:=omega) only[go_sem,ξ,ζ];apply hk;clear hk k) |refine wkt rfl ?_));(try refine wk0 ?_);apply hK;clear hK K;(try dsimp only[ag,qs,qb])) |((first |refine ae ?_ |refine ac ?_);simp(disch:=decide) only[qs,qb,if_true,if_false,reduceIte]) |refine ah rfl (fun K hK=>?_) |refine ct rfl ?_ |((first |refine hK _ _ ?_ |(clear hK;refine hK _ _ ?_) |(clear hK;clear hK;refine hK _ _ ?_));clear hK;(try clear K))));(refine rg rfl rfl (fun K hK=>?_);(repeat (first |(refine wo rfl (fun k hk=>?_);simp(disch:=omega) only[go_sem,ξ,ζ];apply hk;clear hk k) |refine wkt rfl ?_ |with_reducible refine wk0 ?_ |with_reducible refine ao ?_ |with_reducible refine aj ?_ wt_no |with_reducible refine ak ?_)))
       refine cN rfl rfl rfl rfl (by exact c1) ?_;rintro v1 h1 s1 rfl;(repeat (first |(refine wo rfl (fun k hk=>?_);simp(disch:=omega) only[go_sem,ξ,ζ];apply hk;clear hk k) |refine wkt rfl ?_ |with_reducible refine wk0 ?_ |with_reducible refine ao ?_ |with_reducible refine aj ?_ wt_no |with_reducible refine ak ?_))
       (try (simp(disch:=omega) only[go_sem,ξ,ζ]));apply hK;clear hK;(try clear K);(try dsimp only[ag,qs])
       refine ai ?_;simp(disch:=omega) only[go_sem,ξ,ζ]
       all_goals first |rfl |simp
    ·obtain rfl:u'=!u:=by cases u<;>cases u'<;>simp_all
     cases l<;>cases u<;>
     ·(repeat (first |(refine rg rfl rfl (fun K hK=>?_);(repeat (first |(refine wo rfl (fun k hk=>?_);simp(disch:=omega) only[go_sem,ξ,ζ];apply hk;clear hk k) |refine wkt rfl ?_));(try refine wk0 ?_);apply hK;clear hK K;(try dsimp only[ag,qs,qb])) |((first |refine ae ?_ |refine ac ?_);simp(disch:=decide) only[qs,qb,if_true,if_false,reduceIte]) |refine ah rfl (fun K hK=>?_) |refine ct rfl ?_ |((first |refine hK _ _ ?_ |(clear hK;refine hK _ _ ?_) |(clear hK;clear hK;refine hK _ _ ?_));clear hK;(try clear K))))
      refine ai ?_;simp(disch:=omega) only[go_sem,ξ,ζ]
      all_goals first |rfl |simp
   ·obtain rfl:l'=!l:=by cases l<;>cases l'<;>simp_all
    cases l<;>
    ·(repeat (first |(refine rg rfl rfl (fun K hK=>?_);(repeat (first |(refine wo rfl (fun k hk=>?_);simp(disch:=omega) only[go_sem,ξ,ζ];apply hk;clear hk k) |refine wkt rfl ?_));(try refine wk0 ?_);apply hK;clear hK K;(try dsimp only[ag,qs,qb])) |((first |refine ae ?_ |refine ac ?_);simp(disch:=decide) only[qs,qb,if_true,if_false,reduceIte]) |refine ah rfl (fun K hK=>?_) |refine ct rfl ?_ |((first |refine hK _ _ ?_ |(clear hK;refine hK _ _ ?_) |(clear hK;clear hK;refine hK _ _ ?_));clear hK;(try clear K))))
     refine ai ?_;simp(disch:=omega) only[go_sem,ξ,ζ]
     all_goals first |rfl |simp
set_option maxHeartbeats 8000000
theorem Bxr.to {h h':PH} {v:Value} {l:List Sd1} (r:Bxr h v l) [t:Le h h']:Bxr h' v l:=by
 obtain⟨a,c,rfl,k⟩:=r
 refine⟨a,c,rfl,fun i s hi=>?_⟩
 obtain⟨ad,cs,h1,q,h3⟩:=k i s hi
 exact⟨ad,cs,h1,q.to,fun j v hj=>t.sub.at (h3 j v hj)⟩
theorem Same_bxr {h0 h:PH} [Le h0 h] {u w:Value} {l:List Sd1} (h6:l.length≤6) (hb:∀x∈l,x.2.big=false) (hu:Bxr h0 u l) (hw:Bxr h0 w l):Spec mach 47 #[u,w] h (fun r _=>r=.bool true) NP:=by
 obtain⟨a,c,rfl,k⟩:=hu
 obtain⟨a',c',rfl,k'⟩:=hw
 refine SameSides_yes (h0:=h0) (fun i hi=>?_) (by omega)
 obtain⟨x,hx⟩:∃x,l[i]?=some x:=⟨_,List.getElem?_eq_getElem hi⟩
 obtain⟨ad,_,rfl,⟨ds,rfl,q2,q3⟩,q4⟩:=k i _ hx
 obtain⟨ad',_,rfl,⟨ds',rfl,q2',q3'⟩,q4'⟩:=k' i _ hx
 have g:=hb x (List.mem_of_getElem? hx)
 refine⟨ad,ad',x.1,x.1,ds,ds',rfl,rfl,by simp,q2,q2',q4,q4',fun {h} _=>?_⟩
 have:=RefSame2 (h:=h) q3 q3' g g
 rw[JU.2 rfl] at this
 exact this
theorem drop_big {l:List Sd1} {s:ByteArray} (h:okB l=true):∀x∈l.filter (kept s),x.2.big=false:=fun x hx=>by
 obtain⟨i,hi⟩:=List.getElem?_of_mem (List.mem_filter.1 hx).1
 exact okB_big h hi
theorem put_big {l:List Sd1} {s:ByteArray} {y:RI} (h:okB l=true) (hy:y.big=false):∀x∈l.map (putS s y),x.2.big=false:=fun x hx=>by
 obtain⟨z,hz,rfl⟩:=List.mem_map.1 hx
 obtain⟨i,hi⟩:=List.getElem?_of_mem hz
 unfold putS
 cases z.1.toList == s.toList with
 |true=>exact NS.ri_big (RI.le hy)
 |false=>exact okB_big h hi
theorem namE_ok {l:List Sd1} {s:ByteArray} {g:Bool} (h:namE l s g=0):okB l=true:=by
 unfold namE at h
 cases h1:nameB s with
 |false=>rw[h1] at h;cases h
 | true=>
  rw[h1,cond_true] at h
  cases h2:okB l with
  |false=>rw[h2] at h;cases h
  |true=>rfl
theorem Puts_law {h0 h:PH} [Le h0 h] {v w:Value} {l:List Sd1} {s:ByteArray} {y:RI} (hv:Boxv h0 v l) (hw:Iv h0 w y):Spec mach 3 #[v,.string s,w] h (fun r _=>r=.bool true) NP:=by
 have k1:=fun {h} [Le h0 h]=>Put_spec (h:=h) (s:=s) hv hw
 have k2:=fun {h} [Le h0 h]=>RPut_spec (h:=h) (s:=s) hv hw
 have k3:=fun {h} [Le h0 h]=>Drop_spec (h:=h) (s:=s) hv
 have k4:=fun {h} [Le h0 h]=>RDrop_spec (h:=h) (s:=s) hv
 obtain⟨_,_,_,rfl⟩:=hv.sa
 obtain⟨_,_,_,_,_,_,_,_,_,_,_,_,rfl,_,_⟩:=hw.sa
 unfold PutR at k1 k2
 unfold DropR at k3 k4
 cases g:decide (namE l s (putG y)=0) with
 | false=>
  rw[g] at k1 k2
  cases g':decide (namE l s true=0) with
  | false=>
   rw[g'] at k3 k4
   refine Spec.go [] Tryz.func3 rfl rfl (by kernel_rfl) fun C _=>?_
   try simp(maxSteps:=999999) (disch:=omega) only[go_sem,ξ,ζ]
   refine caN (by exact k1) ?_;rintro v1 h1 s1 rfl
   try simp(maxSteps:=999999) (disch:=omega) only[go_sem,ξ,ζ]
   refine caN (by exact k2) ?_;rintro v2 h2 s2 rfl
   try simp(maxSteps:=999999) (disch:=omega) only[go_sem,ξ,ζ]
   refine caN (by exact k3) ?_;rintro v3 h3 s3 rfl
   try simp(maxSteps:=999999) (disch:=omega) only[go_sem,ξ,ζ]
   refine caN (by exact k4) ?_;rintro v4 h4 s4 rfl
   try simp(maxSteps:=999999) (disch:=omega) only[go_sem,ξ,ζ]
   refine caN (by exact Box_no (of_decide_eq_false g)) ?_;rintro v5 h5 s5 rfl
   try simp(maxSteps:=999999) (disch:=omega) only[go_sem,ξ,ζ]
   refine caN (by exact Box_no (of_decide_eq_false g')) ?_;rintro v6 h6 s6 rfl
   try simp(maxSteps:=999999) (disch:=omega) only[go_sem,ξ,ζ]
   refine caN (by exact awake05_spec) ?_;rintro v8 h8 s8 rfl
   try simp(maxSteps:=999999) (disch:=omega) only[go_sem,ξ,ζ]
   all_goals rfl
  | true=>
   rw[g'] at k3 k4
   have e':=of_decide_eq_true g'
   refine Spec.go [] Tryz.func3 rfl rfl (by kernel_rfl) fun C _=>?_
   try simp(maxSteps:=999999) (disch:=omega) only[go_sem,ξ,ζ]
   refine caN (by exact k1) ?_;rintro v1 h1 s1 rfl
   try simp(maxSteps:=999999) (disch:=omega) only[go_sem,ξ,ζ]
   refine caN (by exact k2) ?_;rintro v2 h2 s2 rfl
   try simp(maxSteps:=999999) (disch:=omega) only[go_sem,ξ,ζ]
   refine caN (by exact k3) ?_;rintro v3 h3 s3 ⟨u,rfl,q3⟩;have q3':=q3;obtain⟨_,_,rfl,_⟩:=q3'
   try simp(maxSteps:=999999) (disch:=omega) only[go_sem,ξ,ζ]
   refine caN (by exact k4) ?_;rintro v4 h4 s4 ⟨u',rfl,q4⟩;have q4':=q4;obtain⟨_,_,rfl,_⟩:=q4'
   try simp(maxSteps:=999999) (disch:=omega) only[go_sem,ξ,ζ]
   refine caN (by exact Box_no (of_decide_eq_false g)) ?_;rintro v5 h5 s5 rfl
   try simp(maxSteps:=999999) (disch:=omega) only[go_sem,ξ,ζ]
   refine caN (by exact Box_yes (h0:=h4) (fun {h} _=>Same_bxr (χ (List.length_filter_le _ _) (namE_six e')) (drop_big (namE_ok e')) (q3.to (h':=h4)) q4)) ?_;rintro v6 h6 s6 rfl
   try simp(maxSteps:=999999) (disch:=omega) only[go_sem,ξ,ζ]
   refine caN (by exact awake05_spec) ?_;rintro v8 h8 s8 rfl
   try simp(maxSteps:=999999) (disch:=omega) only[go_sem,ξ,ζ]
   all_goals rfl
 | true=>
  rw[g] at k1 k2
  have e:=of_decide_eq_true g
  have eg:=namE_good e
  have e':namE l s true=0:=by rw[eg] at e;exact e
  have yb:y.big=false:=by unfold putG at eg;simpa using (Bool.and_eq_true_iff.1 eg).1
  rw[show decide (namE l s true=0)=true from decide_eq_true e'] at k3 k4
  refine Spec.go [] Tryz.func3 rfl rfl (by kernel_rfl) fun C _=>?_
  try simp(maxSteps:=999999) (disch:=omega) only[go_sem,ξ,ζ]
  refine caN (by exact k1) ?_;rintro v1 h1 s1 ⟨u1,rfl,q1⟩;have q1':=q1;obtain⟨_,_,rfl,_⟩:=q1'
  try simp(maxSteps:=999999) (disch:=omega) only[go_sem,ξ,ζ]
  refine caN (by exact k2) ?_;rintro v2 h2 s2 ⟨u2,rfl,q2⟩;have q2':=q2;obtain⟨_,_,rfl,_⟩:=q2'
  try simp(maxSteps:=999999) (disch:=omega) only[go_sem,ξ,ζ]
  refine caN (by exact k3) ?_;rintro v3 h3 s3 ⟨u,rfl,q3⟩;have q3':=q3;obtain⟨_,_,rfl,_⟩:=q3'
  try simp(maxSteps:=999999) (disch:=omega) only[go_sem,ξ,ζ]
  refine caN (by exact k4) ?_;rintro v4 h4 s4 ⟨u',rfl,q4⟩;have q4':=q4;obtain⟨_,_,rfl,_⟩:=q4'
  try simp(maxSteps:=999999) (disch:=omega) only[go_sem,ξ,ζ]
  refine caN (by exact Box_yes (h0:=h4) (fun {h} _=>Same_bxr (by rw[List.length_map];exact namE_six e') (put_big (namE_ok e') yb) (q1.to (h':=h4)) (q2.to (h':=h4)))) ?_;rintro v5 h5 s5 rfl
  try simp(maxSteps:=999999) (disch:=omega) only[go_sem,ξ,ζ]
  refine caN (by exact Box_yes (h0:=h5) (fun {h} _=>Same_bxr (χ (List.length_filter_le _ _) (namE_six e')) (drop_big (namE_ok e')) (q3.to (h':=h5)) (q4.to (h':=h5)))) ?_;rintro v6 h6 s6 rfl
  try simp(maxSteps:=999999) (disch:=omega) only[go_sem,ξ,ζ]
  refine caN (by exact awake05_spec) ?_;rintro v8 h8 s8 rfl
  try simp(maxSteps:=999999) (disch:=omega) only[go_sem,ξ,ζ]
  all_goals rfl
end Go.Q
