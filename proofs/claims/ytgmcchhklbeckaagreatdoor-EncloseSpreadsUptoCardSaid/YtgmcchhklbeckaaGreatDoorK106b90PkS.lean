/-
  Sums of intervals that are added from left to right, and what stands on it. Conditions: each theorem's own.
-/
import Derived.Test.YtgmcchhklbeckaaGreatDoorK0717e6PkR
import Derived.Test.YtgmcchhklbeckaaGreatDoorK440114PkP
import Derived.Test.YtgmcchhklbeckaaGreatDoorKf2e869PkN
import Derived.Test.YtgmcchhklbeckaaGreatDoorKe6f7caPkA
import Derived.Test.YtgmcchhklbeckaaGreatDoorK2be57cPkQ
import Derived.Test.YtgmcchhklbeckaaGreatDoorK3550acPkG
import Derived.Test.YtgmcchhklbeckaaGreatDoorK7c64e3PkL
set_option linter.unusedVariables false
set_option linter.unusedSimpArgs false
open Nat renaming reduceBEq→ξ,reduceAdd→ζ,le_trans→χ,le_refl→η,zero_le→qBh,lt_or_ge→qBj
open Bool renaming and_eq_true→φ
open List renaming all_eq_true→qBd
namespace Go.Q
open Go.Proofs Go.RowKit
attribute [local go_sem] Oper.semAt_some
set_option maxRecDepth 100000
set_option maxHeartbeats 16000000
theorem SmR_of {h:PH} {vs:List Value} {e:Int} {o:Out} (r:Ir h (.tuple #[.agg vs.toArray,.int .i64 e]) o) (hn:Enz o) (hl:∀z,o=.ok z→z.le 2048):SmR h vs e o:=by
 cases o with
 | error e'=>
  have r:(Value.tuple _:Value)=.tuple #[zIv,.int .i64 e']:=r
  simp at r
  exact⟨r.2,hn _ rfl⟩
 | ok z=>
  obtain⟨u,e1,k⟩:=r
  simp at e1
  obtain⟨rfl,rfl⟩:=e1
  exact⟨rfl,hl z rfl,k⟩
theorem Kx.one {B:Nat} {A C:World} (h:Below A.heap.size A C):Kx 1 (fun _=>B) A C:=Kx.of_below h
theorem Smx.call {W W':World} {hp h':PH} {B:Nat} {p:Int} {o:Out} (s:Smx W hp B p o) (hb:Below W.heap.size W W') (hh:Has W' h') (hs:Sub hp h') (hn:New W.heap.size hp h'):Smx W' h' B p o:=by
 obtain⟨_,hpv,c1,d1,n1,l1,d2,n2,l2,c2,d3,n3,l3,d4,n4,l4,f1,f2,ee,T,hB,hS⟩:=s
 haveI:Le hp h':=⟨hs⟩
 refine⟨hh,?_,c1,d1,n1,l1,d2,n2,l2,c2,d3,n3,l3,d4,n4,l4,f1,f2,ee,T,(hb.block B (Array.getElem?_eq_some_iff.1 hB).1).trans hB,hS.to⟩
 cases ex:h' B with
 |none=>rfl
 | some cs=>
  rcases hn B (by rw[ex];simp) with k |k
  ·exact absurd hpv k
  ·have:=(Array.getElem?_eq_some_iff.1 hB).1
   omega
theorem Smx.drew {W:World} {hp:PH} {B:Nat} {p:Int} {o:Out} (s:Smx W hp B p o):Smx W.drew hp B p o:=s.call (gt W) (s.has.below (gt W)) (Sub.refl _) (fun _ h=>.inl h)
theorem SumTimes_in {N:Nat} {W0:World} {h0:PH} {B:Nat} {p:Int} {o:Out} (s:Smx W0 h0 B p o) (hg:Sub mach.gl h0) {b1 b2 e1 e2 b1' b2' e1' e2':Bool} {a1 a2 a3 a4 a1' a2' a3' a4':Option Addr} {m1 k1 m2 k2 m3 k3 m4 k4 m1' k1' m2' k2' m3' k3' m4' k4':Nat} {x y:RI}
  (hx:Iv h0 (.agg #[.bool b1,.slice a1 m1 k1,.slice a2 m2 k2,.bool b2,.slice a3 m3 k3,.slice a4 m4 k4,.bool e1,.bool e2]) x) (hy:Iv h0 (.agg #[.bool b1',.slice a1' m1' k1',.slice a2' m2' k2',.bool b2',.slice a3' m3' k3',.slice a4' m4' k4',.bool e1',.bool e2']) y):
  CallsIn Fence.wide N Tryz.prog 67 #[.pointer (some ⟨B,0,none⟩),.agg #[.bool b1,.slice a1 m1 k1,.slice a2 m2 k2,.bool b2,.slice a3 m3 k3,.slice a4 m4 k4,.bool e1,.bool e2],.agg #[.bool b1',.slice a1' m1' k1',.slice a2' m2' k2',.bool b2',.slice a3' m3' k3',.slice a4' m4' k4',.bool e1',.bool e2']] W0
   fun e W'=>(∃v,e=.returned v)∧Kx 1 (fun _=>B) W0 W'∧∃hp,Sub h0 hp∧New W0.heap.size h0 hp∧Smx W' hp B p (timesS p o x y):=by
 have hdd:∀k:Nat,(Fence.wide.depth.isSome=true→1≤k):=fun k h=>by cases h
 have hmix:Tryz.prog.follows .mixedOrders=true:=by kernel_rfl
 have hs0:=s
 obtain⟨hh,hpv,c1,d1,n1,l1,d2,n2,l2,c2,d3,n3,l3,d4,n4,l4,f1,f2,ee,T,hB,hS⟩:=s
 have hlt:=(Array.getElem?_eq_some_iff.1 hB).1
 have hb2:∀o o',Below W0.heap.size W0 ((W0.alloc o).alloc o'):=fun o o'=>((Below.refl W0.heap.size W0).alloc (η _) o).alloc (by simp) o'
 have hA:=fun o o'=>((hb2 o o').block B hlt).trans hB
 have q9:=fun o o'=>bx_cell (hA o o') 9
 simp only[List.getElem?_toArray,List.getElem?_cons_zero,List.getElem?_cons_succ] at q9
 refine callsIn_of_wp Tryz.func67 rfl trivial ?_ rfl
 simp only[Tryz.ntmps67,List.size_toArray,List.length_cons,List.length_nil,ζ,Nat.reduceSub,Array.replicate_succ,Array.replicate_zero,List.push_toArray,List.append_toArray,List.nil_append,List.cons_append]
 cases o with
 | error e'=>
  obtain⟨rfl,he⟩:=hS
  gi_wp2
  go_end0
  exact⟨⟨_,rfl⟩,Kx.one (hb2 _ _),h0,Sub.refl _,fun _ h=>.inl h,hs0.call (hb2 _ _) (hh.below (hb2 _ _)) (Sub.refl _) (fun _ h=>.inl h)⟩
 | ok z=>
  obtain⟨rfl,hz,hcz⟩:=hS
  gi_wp2
  have hT:=World.alloc_heap_new (W0.alloc (.cells #[.bool b1,.slice a1 m1 k1,.slice a2 m2 k2,.bool b2,.slice a3 m3 k3,.slice a4 m4 k4,.bool e1,.bool e2] 35)) (.cells #[.bool b1',.slice a1' m1' k1',.slice a2' m2' k2',.bool b2',.slice a3' m3' k3',.slice a4' m4' k4',.bool e1',.bool e2'] 35)
  have hR:=(Below.heap_alloc (W0.alloc (.cells #[.bool b1,.slice a1 m1 k1,.slice a2 m2 k2,.bool b2,.slice a3 m3 k3,.slice a4 m4 k4,.bool e1,.bool e2] 35)) (.cells #[.bool b1',.slice a1' m1' k1',.slice a2' m2' k2',.bool b2',.slice a3' m3' k3',.slice a4' m4' k4',.bool e1',.bool e2'] 35) W0.heap.size (by simp)).trans (World.alloc_heap_new W0 (.cells #[.bool b1,.slice a1 m1 k1,.slice a2 m2 k2,.bool b2,.slice a3 m3 k3,.slice a4 m4 k4,.bool e1,.bool e2] 35))
  have hB1:=hA (.cells #[.bool b1,.slice a1 m1 k1,.slice a2 m2 k2,.bool b2,.slice a3 m3 k3,.slice a4 m4 k4,.bool e1,.bool e2] 35) (.cells #[.bool b1',.slice a1' m1' k1',.slice a2' m2' k2',.bool b2',.slice a3' m3' k3',.slice a4' m4' k4',.bool e1',.bool e2'] 35)
  have hbl:=hb2 (.cells #[.bool b1,.slice a1 m1 k1,.slice a2 m2 k2,.bool b2,.slice a3 m3 k3,.slice a4 m4 k4,.bool e1,.bool e2] 35) (.cells #[.bool b1',.slice a1' m1' k1',.slice a2' m2' k2',.bool b2',.slice a3' m3' k3',.slice a4' m4' k4',.bool e1',.bool e2'] 35)
  rw[show(W0.alloc (.cells #[.bool b1,.slice a1 m1 k1,.slice a2 m2 k2,.bool b2,.slice a3 m3 k3,.slice a4 m4 k4,.bool e1,.bool e2] 35)).heap.size=W0.heap.size+1 by simp] at hT
  have s1:=hs0.call hbl (hh.below hbl) (Sub.refl _) (fun _ h=>.inl h)
  generalize(W0.alloc (.cells #[.bool b1,.slice a1 m1 k1,.slice a2 m2 k2,.bool b2,.slice a3 m3 k3,.slice a4 m4 k4,.bool e1,.bool e2] 35)).alloc (.cells #[.bool b1',.slice a1' m1' k1',.slice a2' m2' k2',.bool b2',.slice a3' m3' k3',.slice a4' m4' k4',.bool e1',.bool e2'] 35)=W1 at hT hR hB1 hbl s1 ⊢
  clear hA q9 hb2
  have F:=fun w' (hb:Below W1.drew.heap.size W1.drew w')=>(let q:=fun t=>bx_cell hB1 t;let r:=fun t=>bx_cell hR t;let u:=fun t=>bx_cell hT t;And.intro (cellB (w:=W1.drew) hb (q 0)) (And.intro (cellB (w:=W1.drew) hb (r 0)) (And.intro (cellB (w:=W1.drew) hb (r 1)) (And.intro (cellB (w:=W1.drew) hb (r 2)) (And.intro (cellB (w:=W1.drew) hb (r 3)) (And.intro (cellB (w:=W1.drew) hb (r 4)) (And.intro (cellB (w:=W1.drew) hb (r 5)) (And.intro (cellB (w:=W1.drew) hb (r 6)) (And.intro (cellB (w:=W1.drew) hb (r 7)) (And.intro (cellB (w:=W1.drew) hb (u 0)) (And.intro (cellB (w:=W1.drew) hb (u 1)) (And.intro (cellB (w:=W1.drew) hb (u 2)) (And.intro (cellB (w:=W1.drew) hb (u 3)) (And.intro (cellB (w:=W1.drew) hb (u 4)) (And.intro (cellB (w:=W1.drew) hb (u 5)) (And.intro (cellB (w:=W1.drew) hb (u 6)) (cellB (w:=W1.drew) hb (u 7))))))))))))))))))
  refine wpIn_region_b hmix ?_
  refine tkP 0 rfl rfl (by kernel_rfl) (fun _ _ _ h=>h) (fun _=>rfl) (v:=?_) (fun w'=>?_) ?_
  rotate_left
  ·go_simp<;>rfl
  go_simp
  refine tkR 1 rfl rfl (by kernel_rfl) (fun _ _ _ h=>h) (fun _=>rfl) (v:=?_) (fun w' hb=>?_) ?_
  rotate_left
  ·obtain⟨g0,g1,g2,g3,g4,g5,g6,g7,g8,g9,g10,g11,g12,g13,g14,g15,g16⟩:=F w' hb
   go_simp<;>rfl
  go_simp
  refine tkR 2 rfl rfl (by kernel_rfl) (fun _ _ _ h=>h) (fun _=>rfl) (v:=?_) (fun w' hb=>?_) ?_
  rotate_left
  ·obtain⟨g0,g1,g2,g3,g4,g5,g6,g7,g8,g9,g10,g11,g12,g13,g14,g15,g16⟩:=F w' hb
   go_simp<;>rfl
  go_simp
  refine tkP 3 rfl rfl (by kernel_rfl) (fun _ _ _ h=>h) (fun _=>rfl) (v:=?_) (fun w'=>?_) ?_
  rotate_left
  ·go_simp<;>rfl
  go_simp
  refine tkP 4 rfl rfl (by kernel_rfl) (fun _ _ _ h=>h) (fun _=>rfl) (v:=?_) (fun w'=>?_) ?_
  rotate_left
  ·go_simp<;>rfl
  go_simp
  refine tkP 5 rfl rfl (by kernel_rfl) (fun _ _ _ h=>h) (fun _=>rfl) (v:=?_) (fun w'=>?_) ?_
  rotate_left
  ·go_simp<;>rfl
  go_simp
  refine tkR 6 rfl rfl (by kernel_rfl) (fun _ _ _ h=>h) (fun _=>rfl) (v:=?_) (fun w' hb=>?_) ?_
  rotate_left
  ·obtain⟨g0,g1,g2,g3,g4,g5,g6,g7,g8,g9,g10,g11,g12,g13,g14,g15,g16⟩:=F w' hb
   go_simp<;>rfl
  go_simp
  clear F
  refine tpOne 7 rfl rfl (by kernel_rfl) fun K' hK'=>?_
  go_simp
  have s2:=s1.drew
  refine⟨trivial,hdd _,(callsIn_wide.2 ((gH (h0:=h0) (h:=h0) (p:=p) hx hy).run _ s2.has hg)).mono ?_⟩
  intro e W2 hP;obtain⟨u,h1,rfl,t1,t2,t3,t4,r⟩:=post_ret hP;clear hP
  obtain⟨p1,p2,p3,p4,p5,p6,p7,p8,p9,p10,p11,p12,p13,p14,p15,p16,e,rfl,r⟩:=r.sa
  refine hK' _ _ ⟨.inr (.inr t1),?_⟩
  clear hK' K'
  go_simp
  refine tkP 8 rfl rfl (by kernel_rfl) (fun _ _ _ h=>h) (fun _=>rfl) (v:=?_) (fun w'=>?_) ?_
  rotate_left
  ·go_simp<;>rfl
  go_simp
  refine tkP 9 rfl rfl (by kernel_rfl) (fun _ _ _ h=>h) (fun _=>rfl) (v:=?_) (fun w'=>?_) ?_
  rotate_left
  ·go_simp<;>rfl
  go_simp
  have s3:=s2.call t1 t2 t3 t4
  have hb12:Below W0.heap.size W0 W2:=hbl.trans (((gt W1).trans t1).mono hbl.size)
  refine tpOne 10 rfl rfl (by kernel_rfl) fun K' hK'=>?_
  go_simp
  refine⟨trivial,hdd _,(SumAdd_in s3 (hg.trans t3) (o2:=mulE p x y) (SmR_of (o:=mulE p x y) r mulE_nz (fun z h=>fin2_le h))).mono ?_⟩
  rintro e3 W3 ⟨⟨v3,rfl⟩,kx3,h3,r3,r4,s4⟩
  refine hK' _ _ ⟨.inr (.inl (by kernel_rfl)),?_⟩
  clear hK' K'
  go_simp
  refine doneB (by kernel_rfl) ?_ 0
  gi_wp2
  go_end0
  exact⟨⟨_,rfl⟩,(Kx.one hb12).trans kx3,h3,t3.trans r3,fun k hk=>(r4 k hk).elim (fun q=>(t4 k q).imp id (fun g=>χ hbl.size (by simpa using g))) (fun q=>.inr (χ hb12.size q)),s4⟩
end Go.Q
namespace Go.Q
open Go.Proofs Go.RowKit
attribute [local go_sem] Oper.semAt_some
set_option maxRecDepth 100000
set_option maxHeartbeats 16000000
def spF (p:Int) (x:RI) (ks:List RQ) (ds:List NS):Nat→Out
 |0=>x.fin (Out.prec p (.ok (x.set.hull p.toNat)))
 | i + 1=>match spF p x ks ds i with
  |.error e=>.error e
  | .ok z=>match ks[i]?,ds[i]? with
   | some k,some d=>match ptE k with
    |.error e=>.error e
    |.ok a=>timesS p (.ok z) a.ri d.ri
   |_,_=>.ok z
theorem spF_err {p:Int} {x:RI} {ks:List RQ} {ds:List NS} {i:Nat} {e:Int} (h:spF p x ks ds i=.error e):∀k,spF p x ks ds (i+k)=.error e
 |0=>h
 | k+1=>by
  show spF p x ks ds (i+k+1)=_
  unfold spF
  rw[spF_err h k]
def Dsv (h:PH) (v:Value) (l:List NS):Prop:=∃(a:Option Addr) (c:Nat) (C:Nat→List Value),v=.slice a l.length c∧l.length≤2^30∧
 ∀j z,l[j]?=some z→ivC (C j)∧Cv h (.agg (C j).toArray) z∧z.le 2048∧∃blk off,a=some ⟨blk,off,none⟩∧∀(t:Nat) u,(C j)[t]?=some u→h.at ⟨blk,off+j*8+t,none⟩=some u
def SmT (h:PH) (r:Value) (o:Out):Prop:=∃(b1:Bool) (a1:Option Addr) (m1 k1:Nat) (a2:Option Addr) (m2 k2:Nat) (b2:Bool) (a3:Option Addr) (m3 k3:Nat) (a4:Option Addr) (m4 k4:Nat) (e1 e2:Bool) (e:Int),
 r=.tuple #[.agg #[.bool b1,.slice a1 m1 k1,.slice a2 m2 k2,.bool b2,.slice a3 m3 k3,.slice a4 m4 k4,.bool e1,.bool e2],.int .i64 e]∧SmR h [.bool b1,.slice a1 m1 k1,.slice a2 m2 k2,.bool b2,.slice a3 m3 k3,.slice a4 m4 k4,.bool e1,.bool e2] e o
theorem Enz.fin1 {x:RI} {p:Int}:Enz (x.fin (Out.prec p (.ok (x.set.hull p.toNat)))):=fun e he=>by
 unfold RI.fin at he
 cases g:x.big with
 |true=>rw[g] at he;cases he;decide
 | false=>
  rw[g,cond_false] at he
  unfold Out.prec at he
  cases gp:bad p with
  |true=>rw[gp] at he;cases he;decide
  | false=>
   rw[gp,cond_false] at he
   unfold Out.fin at he
   dsimp only at he
   cases e2:decide ((x.set.hull p.toNat).le 2048) with
   |false=>rw[e2] at he;cases he;decide
   |true=>rw[e2] at he;cases he
structure SpS (w:World) (h:PH) (B T4:Nat) (p:Int) (o:Out) (W:World) (hp:PH):Prop where
 below:Below w.heap.size w W
 sub:Sub h hp
 new:New w.heap.size h hp
 s:Smx W hp B p o
 t4:∃(cs:Array Value) (T:TypeId),W.heap[T4]?=some (.cells cs T (0,0))∧cs.size=8
 t4p:hp T4=none
 ne:T4≠B
 bB:w.heap.size≤B
 bT:w.heap.size≤T4
section
variable {w:World} {h:PH} {B T4:Nat} {p:Int} {o:Out} {W:World} {hp:PH}
theorem SpS.call (s:SpS w h B T4 p o W hp) {h':PH} {W':World} (hb:Below W.heap.size W W') (hh:Has W' h') (hs:Sub hp h') (hn:New W.heap.size hp h'):SpS w h B T4 p o W' h':=by
 obtain⟨cs,T,h1,h2⟩:=s.t4
 have hl:=(Array.getElem?_eq_some_iff.1 h1).1
 refine⟨s.below.trans (hb.mono s.below.size),s.sub.trans hs,fun k hk=>(hn k hk).elim (s.new k) (fun q=>.inr (χ s.below.size q)),s.s.call hb hh hs hn,⟨cs,T,(hb.block _ hl).trans h1,h2⟩,?_,s.ne,s.bB,s.bT⟩
 cases ex:h' T4 with
 |none=>rfl
 | some cs=>
  rcases hn T4 (by rw[ex];simp) with k |k
  ·exact absurd s.t4p k
  ·omega
theorem SpS.drew (s:SpS w h B T4 p o W hp):SpS w h B T4 p o W.drew hp:=s.call (gt W) (s.s.has.below (gt W)) (Sub.refl _) (fun _ h=>.inl h)
theorem SpS.alloc (s:SpS w h B T4 p o W hp) (x:Obj):SpS w h B T4 p o (W.alloc x) hp:=
 have hb:Below W.heap.size W (W.alloc x):=(Below.refl _ W).alloc (η _) _
 s.call hb (s.s.has.below hb) (Sub.refl _) (fun _ h=>.inl h)
theorem SpS.kx (s:SpS w h B T4 p o W hp) {o':Out} {h':PH} {W':World} (k:Kx 1 (fun _=>B) W W') (hs:Sub hp h') (hn:New W.heap.size hp h') (m:Smx W' h' B p o'):SpS w h B T4 p o' W' h':=by
 obtain⟨cs,T,h1,h2⟩:=s.t4
 have hl:=(Array.getElem?_eq_some_iff.1 h1).1
 refine⟨⟨k.os.trans s.below.os,k.tape.trans s.below.tape,k.output.trans s.below.output,χ s.below.size k.size,fun b hb=>(k.block b (Nat.lt_of_lt_of_le hb s.below.size) (fun i _ e=>by have:=s.bB;omega)).trans (s.below.block b hb)⟩,s.sub.trans hs,fun k' hk=>(hn k' hk).elim (s.new k') (fun q=>.inr (χ s.below.size q)),m,⟨cs,T,(k.block _ hl (fun i _ e=>s.ne e)).trans h1,h2⟩,?_,s.ne,s.bB,s.bT⟩
 cases ex:h' T4 with
 |none=>rfl
 | some cs=>
  rcases hn T4 (by rw[ex];simp) with k |k
  ·exact absurd s.t4p k
  ·omega
end
theorem Span_spec {h0 h:PH} [l0:Le h0 h] {Lb:Nat} {vb vc vd:Value} {p:Int} {x:RI} {ks:List RQ} {ds:List NS} {sa:Option Addr} {sc:Nat} {b1 b2 e1 e2:Bool} {a1 a2 a3 a4:Option Addr} {m1 k1 m2 k2 m3 k3 m4 k4:Nat}
  (hL:h0 Lb=some #[vb,vc,vd,.int .i64 p]) (hd:Dsv h0 vd ds) (hx:Iv h0 (.agg #[.bool b1,.slice a1 m1 k1,.slice a2 m2 k2,.bool b2,.slice a3 m3 k3,.slice a4 m4 k4,.bool e1,.bool e2]) x) (hk:Rats h0 (.slice sa ks.length sc) ks) (hks:∀(j:Nat) (k:RQ),ks[j]?=some k→∃z,ptE k=.ok z) (hl:ds.length=ks.length) (hn6:ks.length≤6):
  Spec mach 32 #[.pointer (some ⟨Lb,0,none⟩),.agg #[.bool b1,.slice a1 m1 k1,.slice a2 m2 k2,.bool b2,.slice a3 m3 k3,.slice a4 m4 k4,.bool e1,.bool e2,.slice sa ks.length sc]] h (fun r h'=>SmT h' r (spF p x ks ds ks.length)) NP:=by
 refine⟨by kernel_rfl,fun w hw hg=>?_⟩
 refine(callsIn_wide (n:=8)).1 ?_
 show CallsIn Fence.wide 8 Tryz.prog _ _ w _
 have hdd:∀k:Nat,(Fence.wide.depth.isSome=true→1≤k):=fun k h=>by cases h
 have hmix:Tryz.prog.follows .mixedOrders=true:=by kernel_rfl
 have htk:tk mach.P 35=some (some 8):=by kernel_rfl
 have htk1:tk mach.P 36=some none:=by kernel_rfl
 have fn1:Fence.wide.fn 61:=trivial
 obtain⟨da,dc,C,rfl,_,hdk⟩:=hd
 obtain⟨_,hkk⟩:=hk.at_
 have cL:∀{W:World} {hp:PH},Has W hp→Sub h hp→∀(t:Nat) u,([vb,vc,.slice da ds.length dc,.int .i64 p]:List Value)[t]?=some u→W.cell? ⟨Lb,t,none⟩=some u:=fun hh hs t u hu=>by
  refine hh.cell (hs.at (l0.sub.at (?_:h0.at ⟨Lb,t,none⟩=some u)))
  unfold PH.at
  rw[hL]
  simpa using hu
 have L3:=cL hw (Sub.refl _) 3 _ rfl
 refine callsIn_of_wp Tryz.func32 rfl trivial ?_ rfl
 simp only[Tryz.ntmps32,List.size_toArray,List.length_cons,List.length_nil,ζ,Nat.reduceSub,Array.replicate_succ,Array.replicate_zero,List.push_toArray,List.append_toArray,List.nil_append,List.cons_append]
 have hLl:Lb < w.heap.size:=World.block_lt_of_cell? w _ L3
 have L3':∀o o',((w.alloc o).alloc o').cell? ⟨Lb,3,none⟩=some (.int .i64 p):=fun o o'=>cellB (((Below.refl w.heap.size w).alloc (η _) o).alloc (by simp) o') L3
 gi_wp2
 have hA0:=World.alloc_heap_new w (.cells #[.bool b1,.slice a1 m1 k1,.slice a2 m2 k2,.bool b2,.slice a3 m3 k3,.slice a4 m4 k4,.bool e1,.bool e2,.slice sa ks.length sc] 47)
 have hA1:=World.alloc_heap_new (w.alloc (.cells #[.bool b1,.slice a1 m1 k1,.slice a2 m2 k2,.bool b2,.slice a3 m3 k3,.slice a4 m4 k4,.bool e1,.bool e2,.slice sa ks.length sc] 47)) (.cells #[.bool false,.slice none 0 0,.slice none 0 0,.bool false,.slice none 0 0,.slice none 0 0,.bool false,.bool false] 35)
 have hA2:=World.alloc_heap_new ((w.alloc (.cells #[.bool b1,.slice a1 m1 k1,.slice a2 m2 k2,.bool b2,.slice a3 m3 k3,.slice a4 m4 k4,.bool e1,.bool e2,.slice sa ks.length sc] 47)).alloc (.cells #[.bool false,.slice none 0 0,.slice none 0 0,.bool false,.slice none 0 0,.slice none 0 0,.bool false,.bool false] 35)) (.cells #[.int .i64 p,.bool false,.slice none 0 0,.slice none 0 0,.bool false,.slice none 0 0,.slice none 0 0,.bool false,.bool false,.int .i64 0] 119)
 have hb3:Below w.heap.size w (((w.alloc (.cells #[.bool b1,.slice a1 m1 k1,.slice a2 m2 k2,.bool b2,.slice a3 m3 k3,.slice a4 m4 k4,.bool e1,.bool e2,.slice sa ks.length sc] 47)).alloc (.cells #[.bool false,.slice none 0 0,.slice none 0 0,.bool false,.slice none 0 0,.slice none 0 0,.bool false,.bool false] 35)).alloc (.cells #[.int .i64 p,.bool false,.slice none 0 0,.slice none 0 0,.bool false,.slice none 0 0,.slice none 0 0,.bool false,.bool false,.int .i64 0] 119)):=(((Below.refl w.heap.size w).alloc (η _) _).alloc (by simp) _).alloc (by simp;omega) _
 have hX:=(Below.heap_alloc _ (.cells #[.int .i64 p,.bool false,.slice none 0 0,.slice none 0 0,.bool false,.slice none 0 0,.slice none 0 0,.bool false,.bool false,.int .i64 0] 119) w.heap.size (by simp;omega)).trans ((Below.heap_alloc _ (.cells #[.bool false,.slice none 0 0,.slice none 0 0,.bool false,.slice none 0 0,.slice none 0 0,.bool false,.bool false] 35) w.heap.size (by simp)).trans hA0)
 have hT:=(Below.heap_alloc _ (.cells #[.int .i64 p,.bool false,.slice none 0 0,.slice none 0 0,.bool false,.slice none 0 0,.slice none 0 0,.bool false,.bool false,.int .i64 0] 119) _ (by simp)).trans hA1
 rw[show(w.alloc (.cells #[.bool b1,.slice a1 m1 k1,.slice a2 m2 k2,.bool b2,.slice a3 m3 k3,.slice a4 m4 k4,.bool e1,.bool e2,.slice sa ks.length sc] 47)).heap.size=w.heap.size+1 by simp] at hT
 rw[show((w.alloc (.cells #[.bool b1,.slice a1 m1 k1,.slice a2 m2 k2,.bool b2,.slice a3 m3 k3,.slice a4 m4 k4,.bool e1,.bool e2,.slice sa ks.length sc] 47)).alloc (.cells #[.bool false,.slice none 0 0,.slice none 0 0,.bool false,.slice none 0 0,.slice none 0 0,.bool false,.bool false] 35)).heap.size=w.heap.size+1+1 by simp] at hA2
 have hsz:(((w.alloc (.cells #[.bool b1,.slice a1 m1 k1,.slice a2 m2 k2,.bool b2,.slice a3 m3 k3,.slice a4 m4 k4,.bool e1,.bool e2,.slice sa ks.length sc] 47)).alloc (.cells #[.bool false,.slice none 0 0,.slice none 0 0,.bool false,.slice none 0 0,.slice none 0 0,.bool false,.bool false] 35)).alloc (.cells #[.int .i64 p,.bool false,.slice none 0 0,.slice none 0 0,.bool false,.slice none 0 0,.slice none 0 0,.bool false,.bool false,.int .i64 0] 119)).heap.size=w.heap.size+3:=by simp
 generalize((w.alloc (.cells #[.bool b1,.slice a1 m1 k1,.slice a2 m2 k2,.bool b2,.slice a3 m3 k3,.slice a4 m4 k4,.bool e1,.bool e2,.slice sa ks.length sc] 47)).alloc (.cells #[.bool false,.slice none 0 0,.slice none 0 0,.bool false,.slice none 0 0,.slice none 0 0,.bool false,.bool false] 35)).alloc (.cells #[.int .i64 p,.bool false,.slice none 0 0,.slice none 0 0,.bool false,.slice none 0 0,.slice none 0 0,.bool false,.bool false,.int .i64 0] 119)=W3 at hA2 hb3 hX hT hsz ⊢
 clear hA0 hA1 L3'
 have hh3:=hw.below hb3
 have L3':=cellB (hb3.mono (η _)) L3
 have F:=fun w' (hb:Below W3.drew.heap.size W3.drew w')=>(let q:=fun t=>bx_cell hX t;And.intro (cellB (w:=W3.drew) hb L3') (And.intro (cellB (w:=W3.drew) hb (q 0)) (And.intro (cellB (w:=W3.drew) hb (q 1)) (And.intro (cellB (w:=W3.drew) hb (q 2)) (And.intro (cellB (w:=W3.drew) hb (q 3)) (And.intro (cellB (w:=W3.drew) hb (q 4)) (And.intro (cellB (w:=W3.drew) hb (q 5)) (And.intro (cellB (w:=W3.drew) hb (q 6)) (And.intro (cellB (w:=W3.drew) hb (q 7)) (cellB (w:=W3.drew) hb (q 8)))))))))))
 refine wpIn_region_b hmix ?_
 refine tkP 0 rfl rfl (by kernel_rfl) (fun _ _ _ h=>h) (fun _=>rfl) (v:=?_) (fun w'=>?_) ?_
 rotate_left
 ·go_simp<;>rfl
 go_simp
 refine tkP 1 rfl rfl (by kernel_rfl) (fun _ _ _ h=>h) (fun _=>rfl) (v:=?_) (fun w'=>?_) ?_
 rotate_left
 ·go_simp<;>rfl
 go_simp
 refine tkP 2 rfl rfl (by kernel_rfl) (fun _ _ _ h=>h) (fun _=>rfl) (v:=?_) (fun w'=>?_) ?_
 rotate_left
 ·go_simp<;>rfl
 go_simp
 refine tkR 3 rfl rfl (by kernel_rfl) (fun _ _ _ h=>h) (fun _=>rfl) (v:=?_) (fun w' hb=>?_) ?_
 rotate_left
 ·obtain⟨g0,g1,g2,g3,g4,g5,g6,g7,g8,g9⟩:=F w' hb
  go_simp<;>rfl
 go_simp
 refine tkP 4 rfl rfl (by kernel_rfl) (fun _ _ _ h=>h) (fun _=>rfl) (v:=?_) (fun w'=>?_) ?_
 rotate_left
 ·go_simp<;>rfl
 go_simp
 refine tkP 5 rfl rfl (by kernel_rfl) (fun _ _ _ h=>h) (fun _=>rfl) (v:=?_) (fun w'=>?_) ?_
 rotate_left
 ·go_simp<;>rfl
 go_simp
 refine tkP 6 rfl rfl (by kernel_rfl) (fun _ _ _ h=>h) (fun _=>rfl) (v:=?_) (fun w'=>?_) ?_
 rotate_left
 ·go_simp<;>rfl
 go_simp
 refine tkR 7 rfl rfl (by kernel_rfl) (fun _ _ _ h=>h) (fun _=>rfl) (v:=?_) (fun w' hb=>?_) ?_
 rotate_left
 ·obtain⟨g0,g1,g2,g3,g4,g5,g6,g7,g8,g9⟩:=F w' hb
  go_simp<;>rfl
 go_simp
 clear F
 refine tpOne 8 rfl rfl (by kernel_rfl) fun K' hK'=>?_
 go_simp
 refine⟨trivial,(callsIn_wide.2 ((du (h0:=h0) (h:=h) (p:=p) hx).run W3.drew (hh3.below (gt W3)) hg)).mono ?_⟩
 intro e W4 hP;obtain⟨u,h1,rfl,t1,t2,t3,t4,r⟩:=post_ret hP;clear hP
 obtain⟨p1,p2,p3,p4,p5,p6,p7,p8,p9,p10,p11,p12,p13,p14,p15,p16,e,rfl,r⟩:=r.sa
 refine hK' _ _ ⟨.inr (.inr t1),?_⟩
 clear hK' K'
 go_simp
 refine tkP 9 rfl rfl (by kernel_rfl) (fun _ _ _ h=>h) (fun _=>rfl) (v:=?_) (fun w'=>?_) ?_
 rotate_left
 ·go_simp<;>rfl
 go_simp
 refine tkP 10 rfl rfl (by kernel_rfl) (fun _ _ _ h=>h) (fun _=>rfl) (v:=?_) (fun w'=>?_) ?_
 rotate_left
 ·go_simp<;>rfl
 go_simp
 refine tkP 11 rfl rfl (by kernel_rfl) (fun _ _ _ h=>h) (fun _=>rfl) (v:=?_) (fun w'=>?_) ?_
 rotate_left
 ·go_simp<;>rfl
 go_simp
 refine tkP 12 rfl rfl (by kernel_rfl) (fun _ _ _ h=>h) (fun _=>rfl) (v:=?_) (fun w'=>?_) ?_
 rotate_left
 ·go_simp<;>rfl
 go_simp
 refine tkP 13 rfl rfl (by kernel_rfl) (fun _ _ _ h=>h) (fun _=>rfl) (v:=?_) (fun w'=>?_) ?_
 rotate_left
 ·go_simp<;>rfl
 go_simp
 have hb34:Below W3.heap.size W3 W4:=(gt W3).trans t1
 have hA4:=(hb34.block _ (by omega)).trans hA2
 have hX4:=(hb34.block _ (by omega)).trans hX
 have hT4:=(hb34.block _ (by omega)).trans hT
 refine tpOne 14 rfl rfl (by kernel_rfl) fun K' hK'=>?_
 refine wpIn_store_box (M:=mach) rfl (w.heap.size+1+1) 1 [.bool p1,.slice p2 p3 p4,.slice p5 p6 p7,.bool p8,.slice p9 p10 p11,.slice p12 p13 p14,.bool p15,.bool p16] _ rfl (by go_simp<;>rfl) (by go_simp<;>rfl) htk rfl rfl hA4 (by simp) ?_
 intro W5 hW5 hg5
 refine hK' _ _ ⟨.inl rfl,?_⟩
 clear hK' K'
 go_simp
 refine tkP 15 rfl rfl (by kernel_rfl) (fun _ _ _ h=>h) (fun _=>rfl) (v:=?_) (fun w'=>?_) ?_
 rotate_left
 ·go_simp<;>rfl
 go_simp
 refine tkP 16 rfl rfl (by kernel_rfl) (fun _ _ _ h=>h) (fun _=>rfl) (v:=?_) (fun w'=>?_) ?_
 rotate_left
 ·go_simp<;>rfl
 go_simp
 refine tpOne 17 rfl rfl (by kernel_rfl) fun K' hK'=>?_
 refine wpIn_store_box (M:=mach) rfl (w.heap.size+1+1) 9 [.int .i64 e] _ rfl (by go_simp<;>rfl) (by go_simp<;>rfl) htk1 rfl rfl hW5 (by simp[spl_len]) ?_
 intro W6 hW6 hg6
 refine hK' _ _ ⟨.inl rfl,?_⟩
 clear hK' K'
 go_simp
 refine doneB (by kernel_rfl) ?_ 0
 have hpn:∀k,w.heap.size≤k→k < W3.heap.size→h1 k=none:=fun k k1 k2=>by
  cases ex:h1 k with
  |none=>rfl
  | some cs=>
   rcases t4 k (by rw[ex];simp) with q |q
   ·cases ex2:h k with
    |none=>exact absurd ex2 q
    |some cs2=>have:=hw.lt ex2;omega
   ·exact absurd q (by show ¬W3.heap.size≤k;omega)
 have hX6:=(hg6.block w.heap.size (by have:=hg5.size;have:=hb34.size;omega) (fun e=>by have:=Option.some.inj e;omega)).trans ((hg5.block w.heap.size (by have:=hb34.size;omega) (fun e=>by have:=Option.some.inj e;omega)).trans hX4)
 have hT6:=(hg6.block (w.heap.size+1) (by have:=hg5.size;have:=hb34.size;omega) (fun e=>by have:=Option.some.inj e;omega)).trans ((hg5.block (w.heap.size+1) (by have:=hb34.size;omega) (fun e=>by have:=Option.some.inj e;omega)).trans hT4)
 have x8:=bx_cell hX6 8
 simp only[List.getElem?_toArray,List.getElem?_cons_zero,List.getElem?_cons_succ] at x8
 have s:SpS w h (w.heap.size+1+1) (w.heap.size+1) p (spF p x ks ds 0) W6 h1:=
  ⟨((hb3.trans (hb34.mono hb3.size)).grown hg5 (χ hb3.size hb34.size) (fun k e=>by cases e;omega)).grown hg6 (χ (χ hb3.size hb34.size) hg5.size) (fun k e=>by cases e;omega),t3,fun k hk=>(t4 k hk).imp id (fun q=>χ hb3.size q),
   ⟨(t2.kept hg5 (fun r e=>by cases e;exact hpn _ (by omega) (by omega))).kept hg6 (fun r e=>by cases e;exact hpn _ (by omega) (by omega)),hpn _ (by omega) (by omega),p1,p2,p3,p4,p5,p6,p7,p8,p9,p10,p11,p12,p13,p14,p15,p16,e,_,hW6,SmR_of (o:=spF p x ks ds 0) r Enz.fin1 (fun z h=>fin_le h)⟩,
   ⟨_,_,hT6,rfl⟩,hpn _ (by omega) (by omega),by omega,by omega,by omega⟩
 clear hX6 hT6 hX4 hT4 hA4 hA2 hX hT hW5 hg5 hW6 hg6 hpn r t1 t2 t3 t4 hb34 hsz
 gi_wp2
 gi_loopw [36] (fun q W=>∃(I:Int) (i:Nat),(i:Int)=I∧i≤ks.length∧q=.int .i64 I∧∃hp,SpS w h (w.heap.size+1+1) (w.heap.size+1) p (spF p x ks ds i) W hp) (fun q _=>ks.length - (RowKit.intOf q).toNat)
 case atStart=>exact⟨0,0,rfl,qBh _,rfl,_,s⟩
 case round=>
  clear s
  obtain⟨I,i,eI,hi1,rfl,hp,s⟩:=hrel
  have hI1:0≤I:=by omega
  have eI2:I.toNat=i:=by omega
  by_cases h2:I < ks.length
  ·obtain⟨k,hki⟩:∃k,ks[i]?=some k:=⟨_,List.getElem?_eq_getElem (by omega)⟩
   obtain⟨z,hzi⟩:∃z,ds[i]?=some z:=⟨_,List.getElem?_eq_getElem (by omega)⟩
   obtain⟨ad,y1,y2,y3,y4,y5,y6,rfl,hkat,hkr⟩:=hkk i k hki
   obtain⟨kb,ko,rfl⟩:∃b o,ad=⟨b,o,none⟩:=by
    obtain⟨k0,hk0⟩:∃k,ks[0]?=some k:=⟨_,List.getElem?_eq_getElem (by omega)⟩
    obtain⟨ad',_,_,_,_,_,_,e,hat,_⟩:=hkk 0 k0 hk0
    cases e
    have:=hat 0 _ rfl
    rw[Nat.zero_mul,adr0,adr0] at this
    exact⟨_,_,at_spot this⟩
   have hk3:∀(t:Nat) u,([.bool k.1,.slice y1 y2 y3,.slice y4 y5 y6]:List Value)[t]?=some u→wr.cell? ⟨kb,ko+i*3+t,none⟩=some u:=fun t u hu=>by
    have:=hkat t u hu
    rw[adrN,adrN] at this
    exact s.s.has.cell (s.sub.at (l0.sub.at this))
   have y0:wr.cell? ⟨kb,ko+i*3,none⟩=_:=hk3 0 _ rfl
   have y1':=hk3 1 _ rfl
   have y2':=hk3 2 _ rfl
   obtain⟨_,_,c1,d1,n1,l1,d2,n2,l2,c2,d3,n3,l3,d4,n4,l4,f1,f2,ee,T,hB,hS⟩:=s.s
   have q9:=fun o=>bx_cell ((Below.heap_alloc wr o _ (Array.getElem?_eq_some_iff.1 hB).1).trans hB) 9
   simp only[List.getElem?_toArray,List.getElem?_cons_zero,List.getElem?_cons_succ] at q9
   cases hO:spF p x ks ds i with
   | error e'=>
    rw[hO] at hS
    obtain⟨rfl,he⟩:=hS
    gi_wp2
    have s1:=(s.alloc (.cells #[.bool k.1,.slice y1 y2 y3,.slice y4 y5 y6] 24)).drew
    obtain⟨g0',gp',p1,p2,p3,p4,p5,p6,p7,p8,p9,p10,p11,p12,p13,p14,p15,p16,ee',T',hB',hS'⟩:=s1.s
    have F:=fun w' hb=>(let q:=fun t=>bx_cell hB' t;And.intro (cellB (w':=w') hb (q 0)) (And.intro (cellB (w':=w') hb (q 1)) (And.intro (cellB (w':=w') hb (q 2)) (And.intro (cellB (w':=w') hb (q 3)) (And.intro (cellB (w':=w') hb (q 4)) (And.intro (cellB (w':=w') hb (q 5)) (And.intro (cellB (w':=w') hb (q 6)) (And.intro (cellB (w':=w') hb (q 7)) (And.intro (cellB (w':=w') hb (q 8)) (cellB (w':=w') hb (q 9)))))))))))
    refine wpIn_region_b hmix ?_
    refine tkP 0 rfl rfl (by kernel_rfl) (fun _ _ _ h=>h) (fun _=>rfl) (v:=?_) (fun w'=>?_) ?_
    rotate_left
    ·go_simp<;>rfl
    go_simp
    refine tkP 1 rfl rfl (by kernel_rfl) (fun _ _ _ h=>h) (fun _=>rfl) (v:=?_) (fun w'=>?_) ?_
    rotate_left
    ·go_simp<;>rfl
    go_simp
    refine tkP 2 rfl rfl (by kernel_rfl) (fun _ _ _ h=>h) (fun _=>rfl) (v:=?_) (fun w'=>?_) ?_
    rotate_left
    ·go_simp<;>rfl
    go_simp
    refine tkR 3 rfl rfl (by kernel_rfl) (fun _ _ _ h=>h) (fun _=>rfl) (v:=?_) (fun w' hb=>?_) ?_
    rotate_left
    ·obtain⟨g0,g1,g2,g3,g4,g5,g6,g7,g8,g9⟩:=F w' hb
     go_simp<;>rfl
    go_simp
    refine tkP 4 rfl rfl (by kernel_rfl) (fun _ _ _ h=>h) (fun _=>rfl) (v:=?_) (fun w'=>?_) ?_
    rotate_left
    ·go_simp<;>rfl
    go_simp
    refine tkP 5 rfl rfl (by kernel_rfl) (fun _ _ _ h=>h) (fun _=>rfl) (v:=?_) (fun w'=>?_) ?_
    rotate_left
    ·go_simp<;>rfl
    go_simp
    refine tkP 6 rfl rfl (by kernel_rfl) (fun _ _ _ h=>h) (fun _=>rfl) (v:=?_) (fun w'=>?_) ?_
    rotate_left
    ·go_simp<;>rfl
    go_simp
    obtain⟨cs,T5,hT5,hcs⟩:=s1.t4
    have hne:=s1.ne
    refine tp2 7 8 rfl rfl rfl rfl (by kernel_rfl) (fun K' hK'=>?_) (fun K' hK'=>?_)
    ·obtain⟨g0,g1,g2,g3,g4,g5,g6,g7,g8,g9⟩:=F _ (Below.refl _ _)
     go_simp
     refine hK' _ _ ⟨.inr (.inr (Below.refl _ _)),?_⟩
     clear hK' K'
     go_simp
     clear F
     refine tpOne 8 rfl rfl (by kernel_rfl) fun K' hK'=>?_
     refine wpIn_store_box (M:=mach) rfl (w.heap.size+1) 0 [.bool p1,.slice p2 p3 p4,.slice p5 p6 p7,.bool p8,.slice p9 p10 p11,.slice p12 p13 p14,.bool p15,.bool p16] cs rfl (by go_simp<;>rfl) (by go_simp<;>rfl) htk rfl rfl hT5 (by simp[hcs]) ?_
     intro W5 hW5 hg5
     refine hK' _ _ ⟨.inl rfl,?_⟩
     clear hK' K'
     go_simp
     refine tkP 9 rfl rfl (by kernel_rfl) (fun _ _ _ h=>h) (fun _=>rfl) (v:=?_) (fun w'=>?_) ?_
     rotate_left
     ·go_simp<;>rfl
     go_simp
     refine doneB (by kernel_rfl) ?_ 0
     gi_wp2
     obtain⟨v0,v1,v2,v3,v4,v5,v6,v7⟩:=(let q:=fun t=>bx_cell hW5 t;And.intro (q 0) (And.intro (q 1) (And.intro (q 2) (And.intro (q 3) (And.intro (q 4) (And.intro (q 5) (And.intro (q 6) (q 7))))))))
     refine bodyPost_ret (v:=.tuple #[.agg #[.bool p1,.slice p2 p3 p4,.slice p5 p6 p7,.bool p8,.slice p9 p10 p11,.slice p12 p13 p14,.bool p15,.bool p16],.int .i64 ee']) ((results_cell_tmp (p:=4) (ty:=35) (u:=5) rfl _ _ _).trans ?_) rfl ?_
     ·go_simp
     exact⟨hp,s1.below.grown hg5 s1.below.size (fun k e=>by cases e;omega),g0'.kept hg5 (fun r e=>by cases e;exact s1.t4p),s1.sub,s1.new,p1,p2,p3,p4,p5,p6,p7,p8,p9,p10,p11,p12,p13,p14,p15,p16,ee',rfl,by rw[show ks.length=i+(ks.length - i) by omega,spF_err hO,←hO];exact hS'⟩
    ·clear F
     refine wpIn_store_box (M:=mach) rfl (w.heap.size+1) 0 [.bool p1,.slice p2 p3 p4,.slice p5 p6 p7,.bool p8,.slice p9 p10 p11,.slice p12 p13 p14,.bool p15,.bool p16] cs rfl (by go_simp<;>rfl) (by go_simp<;>rfl) htk rfl rfl hT5 (by simp[hcs]) ?_
     intro W5 hW5 hg5
     refine hK' _ _ ⟨.inl rfl,?_⟩
     clear hK' K'
     go_simp
     have hB5:=(hg5.block _ (Array.getElem?_eq_some_iff.1 hB').1 (fun e=>absurd (Option.some.inj e) (by omega))).trans hB'
     have F:=fun w' hb=>(let q:=fun t=>bx_cell hB5 t;And.intro (cellB (w':=w') hb (q 0)) (And.intro (cellB (w':=w') hb (q 1)) (And.intro (cellB (w':=w') hb (q 2)) (And.intro (cellB (w':=w') hb (q 3)) (And.intro (cellB (w':=w') hb (q 4)) (And.intro (cellB (w':=w') hb (q 5)) (And.intro (cellB (w':=w') hb (q 6)) (And.intro (cellB (w':=w') hb (q 7)) (And.intro (cellB (w':=w') hb (q 8)) (cellB (w':=w') hb (q 9)))))))))))
     refine tkR 7 rfl rfl (by kernel_rfl) (fun _ _ _ h=>h) (fun _=>rfl) (v:=?_) (fun w' hb=>?_) ?_
     rotate_left
     ·obtain⟨g0,g1,g2,g3,g4,g5,g6,g7,g8,g9⟩:=F w' hb
      go_simp<;>rfl
     go_simp
     refine tkP 9 rfl rfl (by kernel_rfl) (fun _ _ _ h=>h) (fun _=>rfl) (v:=?_) (fun w'=>?_) ?_
     rotate_left
     ·go_simp<;>rfl
     go_simp
     refine doneB (by kernel_rfl) ?_ 0
     gi_wp2
     obtain⟨v0,v1,v2,v3,v4,v5,v6,v7⟩:=(let q:=fun t=>bx_cell hW5 t;And.intro (q 0) (And.intro (q 1) (And.intro (q 2) (And.intro (q 3) (And.intro (q 4) (And.intro (q 5) (And.intro (q 6) (q 7))))))))
     refine bodyPost_ret (v:=.tuple #[.agg #[.bool p1,.slice p2 p3 p4,.slice p5 p6 p7,.bool p8,.slice p9 p10 p11,.slice p12 p13 p14,.bool p15,.bool p16],.int .i64 ee']) ((results_cell_tmp (p:=4) (ty:=35) (u:=5) rfl _ _ _).trans ?_) rfl ?_
     ·go_simp
     exact⟨hp,s1.below.grown hg5 s1.below.size (fun k e=>by cases e;omega),g0'.kept hg5 (fun r e=>by cases e;exact s1.t4p),s1.sub,s1.new,p1,p2,p3,p4,p5,p6,p7,p8,p9,p10,p11,p12,p13,p14,p15,p16,ee',rfl,by rw[show ks.length=i+(ks.length - i) by omega,spF_err hO,←hO];exact hS'⟩
   | ok z0=>
    rw[hO] at hS
    obtain⟨rfl,_⟩:=hS
    obtain⟨a0,ha0⟩:=hks i k hki
    have kP:Spec mach 61 #[.agg #[.bool k.1,.slice y1 y2 y3,.slice y4 y5 y6]] hp (fun r h'=>Ir h' r (ptE k)) NP:=by
     haveI:Le h0 hp:=Le.tr l0 ⟨s.sub⟩
     exact EE (h0:=hp) (h:=hp) hkr.to
    rw[ha0] at kP
    gi_wp2_with (gi_at_call 61;refine(callsIn_wide.2 (kP.run _ (s.alloc (.cells #[.bool k.1,.slice y1 y2 y3,.slice y4 y5 y6] 24)).s.has (hg.trans s.sub))).mono ?_;rintro e W2 hP;obtain⟨_,hm,rfl,q1,q2,q3,q4,ir⟩:=post_ret hP;obtain⟨_,rfl,ic⟩:=ir;obtain⟨j1,j2,j3,j4,j5,j6,j7,j8,j9,j10,j11,j12,j13,j14,j15,j16,rfl,ic⟩:=ic.sa;have s2:=(s.alloc (.cells #[.bool k.1,.slice y1 y2 y3,.slice y4 y5 y6] 24)).call q1 q2 q3 q4;clear hP)
    have s3:=(s2.alloc (.cells #[.bool j1,.slice j2 j3 j4,.slice j5 j6 j7,.bool j8,.slice j9 j10 j11,.slice j12 j13 j14,.bool j15,.bool j16] 35)).drew
    have hI:=World.alloc_heap_new W2 (.cells #[.bool j1,.slice j2 j3 j4,.slice j5 j6 j7,.bool j8,.slice j9 j10 j11,.slice j12 j13 j14,.bool j15,.bool j16] 35)
    obtain⟨hiv,hdc,hd2,db,dof,rfl,hdat⟩:=hdk i z hzi
    obtain⟨d1',d2',d3',d4',d5',d6',d7',d8',d9',d10',d11',d12',d13',d14',d15',d16',hC⟩:=hiv
    rw[hC] at hdc hdat
    have hLd:=cL s3.s.has s3.sub 2 _ rfl
    have hd3:∀(t:Nat) u,([.bool d1',.slice d2' d3' d4',.slice d5' d6' d7',.bool d8',.slice d9' d10' d11',.slice d12' d13' d14',.bool d15',.bool d16']:List Value)[t]?=some u→(W2.alloc (.cells #[.bool j1,.slice j2 j3 j4,.slice j5 j6 j7,.bool j8,.slice j9 j10 j11,.slice j12 j13 j14,.bool j15,.bool j16] 35)).drew.cell? ⟨db,dof+i*8+t,none⟩=some u:=fun t u hu=>s3.s.has.cell (s3.sub.at (l0.sub.at (hdat t u hu)))
    have hd0:(W2.alloc (.cells #[.bool j1,.slice j2 j3 j4,.slice j5 j6 j7,.bool j8,.slice j9 j10 j11,.slice j12 j13 j14,.bool j15,.bool j16] 35)).drew.cell? ⟨db,dof+i*8,none⟩=_:=hd3 0 _ rfl
    have h2':I < (ds.length:Int):=by omega
    have F:=fun w' (hb:Below (W2.alloc (.cells #[.bool j1,.slice j2 j3 j4,.slice j5 j6 j7,.bool j8,.slice j9 j10 j11,.slice j12 j13 j14,.bool j15,.bool j16] 35)).drew.heap.size (W2.alloc (.cells #[.bool j1,.slice j2 j3 j4,.slice j5 j6 j7,.bool j8,.slice j9 j10 j11,.slice j12 j13 j14,.bool j15,.bool j16] 35)).drew w')=>(let q:=fun t=>bx_cell hI t;And.intro (cellB hb hLd) (And.intro (cellB hb (q 0)) (And.intro (cellB hb (q 1)) (And.intro (cellB hb (q 2)) (And.intro (cellB hb (q 3)) (And.intro (cellB hb (q 4)) (And.intro (cellB hb (q 5)) (And.intro (cellB hb (q 6)) (And.intro (cellB hb (q 7)) (And.intro (cellB hb hd0) (And.intro (cellB hb (hd3 1 _ rfl)) (And.intro (cellB hb (hd3 2 _ rfl)) (And.intro (cellB hb (hd3 3 _ rfl)) (And.intro (cellB hb (hd3 4 _ rfl)) (And.intro (cellB hb (hd3 5 _ rfl)) (And.intro (cellB hb (hd3 6 _ rfl)) (cellB hb (hd3 7 _ rfl))))))))))))))))))
    refine wpIn_region_b hmix ?_
    refine tkP 0 rfl rfl (by kernel_rfl) (fun _ _ _ h=>h) (fun _=>rfl) (v:=?_) (fun w'=>?_) ?_
    rotate_left
    ·go_simp<;>rfl
    go_simp
    refine tkR 1 rfl rfl (by kernel_rfl) (fun _ _ _ h=>h) (fun _=>rfl) (v:=?_) (fun w' hb=>?_) ?_
    rotate_left
    ·obtain⟨f0,f1,f2,f3,f4,f5,f6,f7,f8,f9,f10,f11,f12,f13,f14,f15,f16⟩:=F w' hb
     go_simp<;>rfl
    go_simp
    refine tkP 2 rfl rfl (by kernel_rfl) (fun _ _ _ h=>h) (fun _=>rfl) (v:=?_) (fun w'=>?_) ?_
    rotate_left
    ·go_simp<;>rfl
    go_simp
    refine tkP 3 rfl rfl (by kernel_rfl) (fun _ _ _ h=>h) (fun _=>rfl) (v:=?_) (fun w'=>?_) ?_
    rotate_left
    ·go_simp<;>rfl
    go_simp
    refine tkP 4 rfl rfl (by kernel_rfl) (fun _ _ _ h=>h) (fun _=>rfl) (v:=?_) (fun w'=>?_) ?_
    rotate_left
    ·go_simp<;>rfl
    go_simp
    refine tkR 5 rfl rfl (by kernel_rfl) (fun _ _ _ h=>h) (fun _=>rfl) (v:=?_) (fun w' hb=>?_) ?_
    rotate_left
    ·obtain⟨f0,f1,f2,f3,f4,f5,f6,f7,f8,f9,f10,f11,f12,f13,f14,f15,f16⟩:=F w' hb
     go_simp<;>rfl
    go_simp
    refine tkP 6 rfl rfl (by kernel_rfl) (fun _ _ _ h=>h) (fun _=>rfl) (v:=?_) (fun w'=>?_) ?_
    rotate_left
    ·go_simp<;>rfl
    go_simp
    refine tkP 7 rfl rfl (by kernel_rfl) (fun _ _ _ h=>h) (fun _=>rfl) (v:=?_) (fun w'=>?_) ?_
    rotate_left
    ·go_simp<;>rfl
    go_simp
    refine tkR 8 rfl rfl (by kernel_rfl) (fun _ _ _ h=>h) (fun _=>rfl) (v:=?_) (fun w' hb=>?_) ?_
    rotate_left
    ·obtain⟨f0,f1,f2,f3,f4,f5,f6,f7,f8,f9,f10,f11,f12,f13,f14,f15,f16⟩:=F w' hb
     go_simp<;>rfl
    go_simp
    clear F
    refine tpOne 9 rfl rfl (by kernel_rfl) fun K' hK'=>?_
    go_simp
    have hx':Iv hm (.agg #[.bool j1,.slice j2 j3 j4,.slice j5 j6 j7,.bool j8,.slice j9 j10 j11,.slice j12 j13 j14,.bool j15,.bool j16]) a0.ri:=ic.iv (fin_le ha0)
    have hy':Iv hm (.agg #[.bool d1',.slice d2' d3' d4',.slice d5' d6' d7',.bool d8',.slice d9' d10' d11',.slice d12' d13' d14',.bool d15',.bool d16']) z.ri:=by
     haveI:Le h0 hm:=Le.tr l0 ⟨s3.sub⟩
     exact(hdc.iv hd2).to
    refine⟨trivial,(SumTimes_in s3.s (hg.trans s3.sub) hx' hy').mono ?_⟩
    rintro e W4 ⟨⟨v,rfl⟩,kx,h4,u1,u2,m4⟩
    refine hK' _ _ ⟨.inr (.inl (by kernel_rfl)),?_⟩
    clear hK' K'
    go_simp
    refine doneB (by kernel_rfl) ?_ 0
    have s4:=s3.kx kx u1 u2 m4
    gi_wp2
    go_roundw
    case rel=>exact⟨_,i+1,by omega,by omega,rfl,h4,by
     have e1:spF p x ks ds (i+1)=timesS p (.ok z0) a0.ri z.ri:=by
      show(match spF p x ks ds i with |.error e=>_ |.ok z=>_)=_
      rw[hO]
      simp only[hki,hzi,ha0]
     rw[e1,←hO];exact s4⟩
    case measure=>simp[RowKit.intOf];omega
  ·obtain rfl:ks.length=i:=by omega
   gi_wp2
   have s1:=s.drew
   obtain⟨g0',gp',p1,p2,p3,p4,p5,p6,p7,p8,p9,p10,p11,p12,p13,p14,p15,p16,ee',T',hB',hS'⟩:=s1.s
   have F:=fun w' hb=>(let q:=fun t=>bx_cell hB' t;And.intro (cellB (w':=w') hb (q 0)) (And.intro (cellB (w':=w') hb (q 1)) (And.intro (cellB (w':=w') hb (q 2)) (And.intro (cellB (w':=w') hb (q 3)) (And.intro (cellB (w':=w') hb (q 4)) (And.intro (cellB (w':=w') hb (q 5)) (And.intro (cellB (w':=w') hb (q 6)) (And.intro (cellB (w':=w') hb (q 7)) (And.intro (cellB (w':=w') hb (q 8)) (cellB (w':=w') hb (q 9)))))))))))
   refine wpIn_region_b hmix ?_
   refine tkP 0 rfl rfl (by kernel_rfl) (fun _ _ _ h=>h) (fun _=>rfl) (v:=?_) (fun w'=>?_) ?_
   rotate_left
   ·go_simp<;>rfl
   go_simp
   refine tkP 1 rfl rfl (by kernel_rfl) (fun _ _ _ h=>h) (fun _=>rfl) (v:=?_) (fun w'=>?_) ?_
   rotate_left
   ·go_simp<;>rfl
   go_simp
   refine tkP 2 rfl rfl (by kernel_rfl) (fun _ _ _ h=>h) (fun _=>rfl) (v:=?_) (fun w'=>?_) ?_
   rotate_left
   ·go_simp<;>rfl
   go_simp
   refine tkR 3 rfl rfl (by kernel_rfl) (fun _ _ _ h=>h) (fun _=>rfl) (v:=?_) (fun w' hb=>?_) ?_
   rotate_left
   ·obtain⟨g0,g1,g2,g3,g4,g5,g6,g7,g8,g9⟩:=F w' hb
    go_simp<;>rfl
   go_simp
   refine tkP 4 rfl rfl (by kernel_rfl) (fun _ _ _ h=>h) (fun _=>rfl) (v:=?_) (fun w'=>?_) ?_
   rotate_left
   ·go_simp<;>rfl
   go_simp
   refine tkP 5 rfl rfl (by kernel_rfl) (fun _ _ _ h=>h) (fun _=>rfl) (v:=?_) (fun w'=>?_) ?_
   rotate_left
   ·go_simp<;>rfl
   go_simp
   refine tkP 6 rfl rfl (by kernel_rfl) (fun _ _ _ h=>h) (fun _=>rfl) (v:=?_) (fun w'=>?_) ?_
   rotate_left
   ·go_simp<;>rfl
   go_simp
   obtain⟨cs,T5,hT5,hcs⟩:=s1.t4
   have hne:=s1.ne
   refine tp2 7 8 rfl rfl rfl rfl (by kernel_rfl) (fun K' hK'=>?_) (fun K' hK'=>?_)
   ·obtain⟨g0,g1,g2,g3,g4,g5,g6,g7,g8,g9⟩:=F _ (Below.refl _ _)
    go_simp
    refine hK' _ _ ⟨.inr (.inr (Below.refl _ _)),?_⟩
    clear hK' K'
    go_simp
    clear F
    refine tpOne 8 rfl rfl (by kernel_rfl) fun K' hK'=>?_
    refine wpIn_store_box (M:=mach) rfl (w.heap.size+1) 0 [.bool p1,.slice p2 p3 p4,.slice p5 p6 p7,.bool p8,.slice p9 p10 p11,.slice p12 p13 p14,.bool p15,.bool p16] cs rfl (by go_simp<;>rfl) (by go_simp<;>rfl) htk rfl rfl hT5 (by simp[hcs]) ?_
    intro W5 hW5 hg5
    refine hK' _ _ ⟨.inl rfl,?_⟩
    clear hK' K'
    go_simp
    refine tkP 9 rfl rfl (by kernel_rfl) (fun _ _ _ h=>h) (fun _=>rfl) (v:=?_) (fun w'=>?_) ?_
    rotate_left
    ·go_simp<;>rfl
    go_simp
    refine doneB (by kernel_rfl) ?_ 0
    gi_wp2
    obtain⟨v0,v1,v2,v3,v4,v5,v6,v7⟩:=(let q:=fun t=>bx_cell hW5 t;And.intro (q 0) (And.intro (q 1) (And.intro (q 2) (And.intro (q 3) (And.intro (q 4) (And.intro (q 5) (And.intro (q 6) (q 7))))))))
    refine bodyPost_ret (v:=.tuple #[.agg #[.bool p1,.slice p2 p3 p4,.slice p5 p6 p7,.bool p8,.slice p9 p10 p11,.slice p12 p13 p14,.bool p15,.bool p16],.int .i64 ee']) ((results_cell_tmp (p:=4) (ty:=35) (u:=5) rfl _ _ _).trans ?_) rfl ?_
    ·go_simp
    exact⟨hp,s1.below.grown hg5 s1.below.size (fun k e=>by cases e;omega),g0'.kept hg5 (fun r e=>by cases e;exact s1.t4p),s1.sub,s1.new,p1,p2,p3,p4,p5,p6,p7,p8,p9,p10,p11,p12,p13,p14,p15,p16,ee',rfl,hS'⟩
   ·clear F
    refine wpIn_store_box (M:=mach) rfl (w.heap.size+1) 0 [.bool p1,.slice p2 p3 p4,.slice p5 p6 p7,.bool p8,.slice p9 p10 p11,.slice p12 p13 p14,.bool p15,.bool p16] cs rfl (by go_simp<;>rfl) (by go_simp<;>rfl) htk rfl rfl hT5 (by simp[hcs]) ?_
    intro W5 hW5 hg5
    refine hK' _ _ ⟨.inl rfl,?_⟩
    clear hK' K'
    go_simp
    have hB5:=(hg5.block _ (Array.getElem?_eq_some_iff.1 hB').1 (fun e=>absurd (Option.some.inj e) (by omega))).trans hB'
    have F:=fun w' hb=>(let q:=fun t=>bx_cell hB5 t;And.intro (cellB (w':=w') hb (q 0)) (And.intro (cellB (w':=w') hb (q 1)) (And.intro (cellB (w':=w') hb (q 2)) (And.intro (cellB (w':=w') hb (q 3)) (And.intro (cellB (w':=w') hb (q 4)) (And.intro (cellB (w':=w') hb (q 5)) (And.intro (cellB (w':=w') hb (q 6)) (And.intro (cellB (w':=w') hb (q 7)) (And.intro (cellB (w':=w') hb (q 8)) (cellB (w':=w') hb (q 9)))))))))))
    refine tkR 7 rfl rfl (by kernel_rfl) (fun _ _ _ h=>h) (fun _=>rfl) (v:=?_) (fun w' hb=>?_) ?_
    rotate_left
    ·obtain⟨g0,g1,g2,g3,g4,g5,g6,g7,g8,g9⟩:=F w' hb
     go_simp<;>rfl
    go_simp
    refine tkP 9 rfl rfl (by kernel_rfl) (fun _ _ _ h=>h) (fun _=>rfl) (v:=?_) (fun w'=>?_) ?_
    rotate_left
    ·go_simp<;>rfl
    go_simp
    refine doneB (by kernel_rfl) ?_ 0
    gi_wp2
    obtain⟨v0,v1,v2,v3,v4,v5,v6,v7⟩:=(let q:=fun t=>bx_cell hW5 t;And.intro (q 0) (And.intro (q 1) (And.intro (q 2) (And.intro (q 3) (And.intro (q 4) (And.intro (q 5) (And.intro (q 6) (q 7))))))))
    refine bodyPost_ret (v:=.tuple #[.agg #[.bool p1,.slice p2 p3 p4,.slice p5 p6 p7,.bool p8,.slice p9 p10 p11,.slice p12 p13 p14,.bool p15,.bool p16],.int .i64 ee']) ((results_cell_tmp (p:=4) (ty:=35) (u:=5) rfl _ _ _).trans ?_) rfl ?_
    ·go_simp
    exact⟨hp,s1.below.grown hg5 s1.below.size (fun k e=>by cases e;omega),g0'.kept hg5 (fun r e=>by cases e;exact s1.t4p),s1.sub,s1.new,p1,p2,p3,p4,p5,p6,p7,p8,p9,p10,p11,p12,p13,p14,p15,p16,ee',rfl,hS'⟩
open Go.Proofs
def undE (e:Int):Int:=bif e == 10 then 5 else e
theorem Undefined_spec {e:Int} {h:PH}:Spec mach 24 #[.int .i64 e] h (fun r _=>r=.int .i64 (undE e)) NP:=by
 unfold undE
 cases he:e == 10 with
 | true=>
  refine Spec.go [] Tryz.func24 rfl rfl (by kernel_rfl) fun C _=>?_
  try simp(maxSteps:=999999) (disch:=omega) only[go_sem,ξ,ζ,he]
  all_goals rfl
 | false=>
  refine Spec.go [] Tryz.func24 rfl rfl (by kernel_rfl) fun C _=>?_
  try simp(maxSteps:=999999) (disch:=omega) only[go_sem,ξ,ζ,he]
  all_goals rfl
theorem RefDomain_spec {e:Int} {h:PH}:Spec mach 40 #[.int .i64 e] h (fun r _=>r=.int .i64 (undE e)) NP:=by
 unfold undE
 cases he:e == 10 with
 | true=>
  refine Spec.go [] Tryz.func40 rfl rfl (by kernel_rfl) fun C _=>?_
  try simp(maxSteps:=999999) (disch:=omega) only[go_sem,ξ,ζ,he]
  all_goals rfl
 | false=>
  refine Spec.go [] Tryz.func40 rfl rfl (by kernel_rfl) fun C _=>?_
  try simp(maxSteps:=999999) (disch:=omega) only[go_sem,ξ,ζ,he]
  all_goals rfl
def plusE (p:Int) (z x y:RI):Out:=match mulE p x y with
 |.error e=>.error e
 |.ok w=>addE p z w.ri
theorem RefPlusS {h0 h:PH} [Le h0 h] {p:Int} {z x y:RI} {b1 b2 e1 e2:Bool} {a1 a2 a3 a4:Option Addr} {m1 c1 m2 c2 m3 c3 m4 c4:Nat} {b1' b2' e1' e2':Bool} {a1' a2' a3' a4':Option Addr} {m1' c1' m2' c2' m3' c3' m4' c4':Nat} {b1₂ b2₂ e1₂ e2₂:Bool} {a1₂ a2₂ a3₂ a4₂:Option Addr} {m1₂ c1₂ m2₂ c2₂ m3₂ c3₂ m4₂ c4₂:Nat}
  (hz:Iv h0 (.agg #[.bool b1,.slice a1 m1 c1,.slice a2 m2 c2,.bool b2,.slice a3 m3 c3,.slice a4 m4 c4,.bool e1,.bool e2]) z) (hx:Iv h0 (.agg #[.bool b1',.slice a1' m1' c1',.slice a2' m2' c2',.bool b2',.slice a3' m3' c3',.slice a4' m4' c4',.bool e1',.bool e2']) x) (hy:Iv h0 (.agg #[.bool b1₂,.slice a1₂ m1₂ c1₂,.slice a2₂ m2₂ c2₂,.bool b2₂,.slice a3₂ m3₂ c3₂,.slice a4₂ m4₂ c4₂,.bool e1₂,.bool e2₂]) y):
  Spec mach 78 #[.agg #[.bool b1,.slice a1 m1 c1,.slice a2 m2 c2,.bool b2,.slice a3 m3 c3,.slice a4 m4 c4,.bool e1,.bool e2],.agg #[.bool b1',.slice a1' m1' c1',.slice a2' m2' c2',.bool b2',.slice a3' m3' c3',.slice a4' m4' c4',.bool e1',.bool e2'],.agg #[.bool b1₂,.slice a1₂ m1₂ c1₂,.slice a2₂ m2₂ c2₂,.bool b2₂,.slice a3₂ m3₂ c3₂,.slice a4₂ m4₂ c4₂,.bool e1₂,.bool e2₂],.int .i64 p] h (fun r h'=>Ir h' r (plusE p z x y)) NP:=by
 have kM:∀{h:PH} [Le h0 h],Spec mach 142 #[.agg #[.bool b1',.slice a1' m1' c1',.slice a2' m2' c2',.bool b2',.slice a3' m3' c3',.slice a4' m4' c4',.bool e1',.bool e2'],.agg #[.bool b1₂,.slice a1₂ m1₂ c1₂,.slice a2₂ m2₂ c2₂,.bool b2₂,.slice a3₂ m3₂ c3₂,.slice a4₂ m4₂ c4₂,.bool e1₂,.bool e2₂],.int .i64 p] h (fun r h'=>Ir h' r (mulE p x y)) NP:=fun {h} [Le h0 h]=>RefMul (h:=h) hx hy
 unfold plusE
 cases hM:mulE p x y with
 | error e=>
  rw[hM] at kM
  have he2:(e != 0)=true:=by simpa using (mulE_nz (p:=p) (x:=x) (y:=y)) e hM
  unfold Ir zIv at kM
  refine Spec.go [] Tryz.func78 rfl rfl (by kernel_rfl) fun C _=>?_
  try simp(maxSteps:=999999) (disch:=omega) only[go_sem,ξ,ζ]
  refine caN (by exact kM) ?_;rintro _ h1 s1 rfl
  try simp(maxSteps:=999999) (disch:=omega) only[go_sem,ξ,ζ,he2]
  all_goals rfl
 | ok w=>
  rw[hM] at kM
  refine Spec.go [] Tryz.func78 rfl rfl (by kernel_rfl) fun C _=>?_
  try simp(maxSteps:=999999) (disch:=omega) only[go_sem,ξ,ζ]
  refine caN (by exact kM) ?_;rintro _ h1 s1 ⟨u,rfl,hu⟩;obtain⟨_,_,_,_,_,_,_,_,_,_,_,_,_,_,_,_,rfl,hu⟩:=hu.sa
  try simp(maxSteps:=999999) (disch:=omega) only[go_sem,ξ,ζ]
  have kS:=RefAdd (h0:=h1) (h:=h1) (p:=p) hz.to (hu.iv (fin2_le hM))
  refine caN (by exact kS) ?_;rintro _ h2 s2 r2;obtain⟨_,_,_,_,_,_,_,_,_,_,_,_,_,_,_,_,_,rfl,r2⟩:=r2.sa
  try simp(maxSteps:=999999) (disch:=omega) only[go_sem,ξ,ζ]
  all_goals exact r2
theorem ptE_eq {k:Bool×Nat×Nat} {a:NS} (h:ptE k=.ok a):(ptR k).big=false∧a=(ptR k).set:=by
 unfold ptE RI.fin at h
 cases g:(ptR k).big with
 |true=>rw[g] at h;cases h
 | false=>
  rw[g,cond_false] at h
  unfold Out.fin at h
  dsimp only at h
  cases e2:decide ((ptR k).set.le 2048) with
  |false=>rw[e2] at h;cases h
  |true=>rw[e2] at h;cases h;exact⟨rfl,rfl⟩
theorem mulE_pt {p:Int} {k:Bool×Nat×Nat} {a:NS} {y:RI} (h:ptE k=.ok a):mulE p (ptR k) y=mulE p a.ri y:=by
 obtain⟨h1,h2⟩:=ptE_eq h
 have h3:a.ri.big=false:=NS.ri_big (fin_le h)
 have h4:a.ri.set=(ptR k).set:=by rw[NS.ri_set (by rw[h2];exact RI.set_ok _),h2]
 unfold mulE RI.fin2
 rw[h1,h3,h4]
theorem timesS_plus {p:Int} {k:Bool×Nat×Nat} {a z:NS} {y:RI} (h:ptE k=.ok a):timesS p (.ok z) a.ri y=plusE p z.ri (ptR k) y:=by
 show(match mulE p a.ri y with |.error e=>_ |.ok w=>addE p z.ri w.ri)=_
 unfold plusE
 rw[mulE_pt h]
def rcF (p:Int) (o:Out) (ks:List RQ) (ds:List NS):Nat→Out
 |0=>o
 | i +1=>match rcF p o ks ds i with
  |.error e=>.error e
  | .ok z=>match ks[i]?,ds[i]? with
   |some k,some d=>plusE p z.ri (ptR k) d.ri
   |_,_=>.ok z
theorem spF_rcF {p:Int} {x:RI} {ks:List RQ} {ds:List NS} (hks:∀(j:Nat) (k:RQ),ks[j]?=some k→∃z,ptE k=.ok z):∀i,spF p x ks ds i=rcF p (x.fin (Out.prec p (.ok (x.set.hull p.toNat)))) ks ds i
 |0=>rfl
 | i + 1 =>by
  unfold spF rcF
  rw[spF_rcF hks i]
  cases rcF p (x.fin (Out.prec p (.ok (x.set.hull p.toNat)))) ks ds i with
  |error e=>rfl
  | ok z=>
   cases hk:ks[i]? with
   |none=>rfl
   | some k=>
    cases hd:ds[i]? with
    |none=>rfl
    | some d=>
     obtain⟨a,ha⟩:=hks i k hk
     dsimp only
     rw[ha]
     exact timesS_plus ha
theorem N32.len0y {h:PH} {a:Option Addr} {l c n:Nat} (r:N32 h (.slice a l c) n):l=0↔n=0:=by
 obtain⟨a',c',e,_⟩:=r
 cases e
 exact nP (by decide)
theorem Cn.parts {h:PH} {v:Value} {x:Rat} (r:Cn h v x):∃na nl nc da dl dc,v=.agg #[.bool (decide (x.num < 0)),.slice na nl nc,.slice da dl dc]∧N32 h (.slice na nl nc) x.num.natAbs∧N32 h (.slice da dl dc) (if x.den=1 then 0 else x.den)∧(nl=0↔x=0)∧(dl=0↔x.den=1):=by
 obtain⟨sn,sd,rfl,h1,h2⟩:=r
 obtain⟨na,nl,nc,rfl,h1⟩:=h1.sl
 obtain⟨da,dl,dc,rfl,h2⟩:=h2.sl
 refine⟨_,_,_,_,_,_,rfl,h1,h2,?_,?_⟩
 ·rw[h1.len0y,Int.natAbs_eq_zero,Rat.num_eq_zero]
 ·rw[h2.len0y]
  have:=x.den_nz
  split<;>omega

structure Hid (p:Prop):Prop where
 out:p
@[go_sem] theorem uw_get1 (d:Nat):(uw [d])[0]?=some (.int .u32 (d:Nat)):=rfl



def kidsO (f:Nat→Out):Nat→Except Int (List NS)
 |0=>.ok []
 | i +1=>match kidsO f i with
  |.error e=>.error e
  | .ok l=>match f i with
   |.error e=>.error e
   |.ok z=>.ok (l ++[z])
end Go.Q
namespace Go.Q
open Go.Proofs Go.RowKit
attribute [local go_sem] Oper.semAt_some
set_option maxRecDepth 100000
set_option maxHeartbeats 16000000
def bndB (l:List Sd1):Bool:=l.all fun s=>!(s.2.l || s.2.u)
theorem bndB_yes {l:List Sd1} (h:∀(j:Nat) s,j < l.length→l[j]?=some s→(s.2.l || s.2.u)=false):bndB l=true:=by
 unfold bndB
 refine qBd.2 fun s hs=>?_
 obtain⟨j,hj⟩:=List.getElem?_of_mem hs
 rw[h j s (List.getElem?_eq_some_iff.1 hj).1 hj];rfl
theorem bndB_no {l:List Sd1} {j:Nat} {s:Sd1} (hj:l[j]?=some s) (h:(s.2.l || s.2.u)=true):bndB l=false:=by
 unfold bndB
 refine List.all_eq_false.2 ⟨s,List.mem_of_getElem? hj,?_⟩
 rw[h];decide
theorem BndP_spec {h0 h:PH} [l0:Le h0 h] {v:Value} {l:List Sd1} (hv:Boxv h0 v l):Spec mach 30 #[v] h (fun r _=>r=.bool (bndB l)) NP:=by
 refine⟨by kernel_rfl,fun w hw hg=>?_⟩
 refine(callsIn_wide (n:=8)).1 ?_
 show CallsIn Fence.wide 8 Tryz.prog _ _ w _
 obtain⟨a,c,rfl,hlen,hk⟩:=hv.side
 refine callsIn_of_wp Tryz.func30 rfl trivial ?_ rfl
 simp only[Tryz.ntmps30,List.size_toArray,List.length_cons,List.length_nil,ζ,Nat.reduceSub,Array.replicate_succ,Array.replicate_zero,List.push_toArray,List.append_toArray,List.nil_append,List.cons_append]
 gi_wp2
 gi_loopw [7] (fun q W=>∃(I:Int) (i:Nat),(i:Int)=I∧i≤l.length∧q=.int .i64 I∧(∀(j:Nat) s,j < i→l[j]?=some s→(s.2.l || s.2.u)=false)∧Has W h∧Below w.heap.size w W) (fun q _=>l.length - (RowKit.intOf q).toNat)
 case atStart=>exact⟨0,0,rfl,qBh _,rfl,fun j s h=>absurd h (by omega),hw,Below.refl _ _⟩
 case round=>
  obtain⟨I,i,eI,hi1,rfl,hall,hh,hb⟩:=hrel
  have hI1:0≤I:=by omega
  have eI2:I.toNat=i:=by omega
  by_cases h2:I < l.length
  ·obtain⟨s,hs⟩:∃s,l[i]?=some s:=⟨_,List.getElem?_eq_getElem (by omega)⟩
   obtain⟨ad,y1,y2,y3,y4,y5,y6,y7,y8,y9,z1,z2,z3,rfl,hkat,_⟩:=hk i s hs
   obtain⟨kb,ko,rfl⟩:∃b o,ad=⟨b,o,none⟩:=by
    obtain⟨s0,hs0⟩:∃s,l[0]?=some s:=⟨_,List.getElem?_eq_getElem (by omega)⟩
    obtain⟨ad',_,_,_,_,_,_,_,_,_,_,_,_,e,hat,_⟩:=hk 0 s0 hs0
    cases e
    have:=hat 0 _ rfl
    rw[Nat.zero_mul,adr0,adr0] at this
    exact⟨_,_,at_spot this⟩
   have hk3:∀(t:Nat) u,([.string s.1,.bool s.2.n1,.slice y1 y2 y3,.slice y4 y5 y6,.bool s.2.n2,.slice y7 y8 y9,.slice z1 z2 z3,.bool s.2.l,.bool s.2.u]:List Value)[t]?=some u→wr.cell? ⟨kb,ko+i*9+t,none⟩=some u:=fun t u hu=>by
    have:=hkat t u hu
    rw[adrN,adrN] at this
    exact hh.cell (l0.sub.at this)
   have y0:wr.cell? ⟨kb,ko+i*9,none⟩=_:=hk3 0 _ rfl
   have x1:=hk3 1 _ rfl
   have x2:=hk3 2 _ rfl
   have x3:=hk3 3 _ rfl
   have x4:=hk3 4 _ rfl
   have x5:=hk3 5 _ rfl
   have x6:=hk3 6 _ rfl
   have x7:=hk3 7 _ rfl
   have x8:=hk3 8 _ rfl
   clear hk3 hkat
   have hb':∀o,Below w.heap.size w (wr.alloc o):=fun o=>hb.alloc hb.size o
   have hh':∀o,Has (wr.alloc o) h:=fun o=>hh.below ((Below.refl wr.heap.size wr).alloc (η _) o)
   cases hl:s.2.l with
   | true=>
    rw[hl] at x7
    gi_wp2
    refine bodyPost_ret (results_tmp rfl _ _ _) rfl ?_
    exact⟨h,hb' _,hh' _,Sub.refl _,fun _ k=>.inl k,by rw[bndB_no hs (by rw[hl];rfl)];rfl⟩
   | false =>
    rw[hl] at x7
    cases hu:s.2.u with
    | true=>
     rw[hu] at x8
     gi_wp2
     refine bodyPost_ret (results_tmp rfl _ _ _) rfl ?_
     exact⟨h,hb' _,hh' _,Sub.refl _,fun _ k=>.inl k,by rw[bndB_no hs (by rw[hu];simp)];rfl⟩
    | false=>
     rw[hu] at x8
     gi_wp2
     go_roundw
     case rel=>exact⟨_,i+1,by omega,by omega,rfl,fun a r ha hr'=>by
      rcases qBj a i with g |g
      ·exact hall a r g hr'
      ·obtain rfl:a=i:=by omega
       rw[hs] at hr';cases hr';rw[hl,hu];rfl,hh' _,hb' _⟩
     case measure=>simp[RowKit.intOf];omega
  ·obtain rfl:l.length=i:=by omega
   gi_wp2
   refine bodyPost_ret (results_tmp rfl _ _ _) rfl ?_
   exact⟨h,hb,hh,Sub.refl _,fun _ k=>.inl k,by rw[bndB_yes hall];rfl⟩
theorem BoundedR_spec {h0 h:PH} [l0:Le h0 h] {v:Value} {l:List Sd1} (hv:Boxv h0 v l):Spec mach 37 #[v] h (fun r _=>r=.bool (bndB l)) NP:=by
 refine⟨by kernel_rfl,fun w hw hg=>?_⟩
 refine(callsIn_wide (n:=8)).1 ?_
 show CallsIn Fence.wide 8 Tryz.prog _ _ w _
 obtain⟨a,c,rfl,hlen,hk⟩:=hv.side
 refine callsIn_of_wp Tryz.func37 rfl trivial ?_ rfl
 simp only[Tryz.ntmps37,List.size_toArray,List.length_cons,List.length_nil,ζ,Nat.reduceSub,Array.replicate_succ,Array.replicate_zero,List.push_toArray,List.append_toArray,List.nil_append,List.cons_append]
 gi_wp2
 gi_loopw [7] (fun q W=>∃(I:Int) (i:Nat),(i:Int)=I∧i≤l.length∧q=.int .i64 I∧(∀(j:Nat) s,j < i→l[j]?=some s→(s.2.l || s.2.u)=false)∧Has W h∧Below w.heap.size w W) (fun q _=>l.length - (RowKit.intOf q).toNat)
 case atStart=>exact⟨0,0,rfl,qBh _,rfl,fun j s h=>absurd h (by omega),hw,Below.refl _ _⟩
 case round=>
  obtain⟨I,i,eI,hi1,rfl,hall,hh,hb⟩:=hrel
  have hI1:0≤I:=by omega
  have eI2:I.toNat=i:=by omega
  by_cases h2:I < l.length
  ·obtain⟨s,hs⟩:∃s,l[i]?=some s:=⟨_,List.getElem?_eq_getElem (by omega)⟩
   obtain⟨ad,y1,y2,y3,y4,y5,y6,y7,y8,y9,z1,z2,z3,rfl,hkat,_⟩:=hk i s hs
   obtain⟨kb,ko,rfl⟩:∃b o,ad=⟨b,o,none⟩:=by
    obtain⟨s0,hs0⟩:∃s,l[0]?=some s:=⟨_,List.getElem?_eq_getElem (by omega)⟩
    obtain⟨ad',_,_,_,_,_,_,_,_,_,_,_,_,e,hat,_⟩:=hk 0 s0 hs0
    cases e
    have:=hat 0 _ rfl
    rw[Nat.zero_mul,adr0,adr0] at this
    exact⟨_,_,at_spot this⟩
   have hk3:∀(t:Nat) u,([.string s.1,.bool s.2.n1,.slice y1 y2 y3,.slice y4 y5 y6,.bool s.2.n2,.slice y7 y8 y9,.slice z1 z2 z3,.bool s.2.l,.bool s.2.u]:List Value)[t]?=some u→wr.cell? ⟨kb,ko+i*9+t,none⟩=some u:=fun t u hu=>by
    have:=hkat t u hu
    rw[adrN,adrN] at this
    exact hh.cell (l0.sub.at this)
   have y0:wr.cell? ⟨kb,ko+i*9,none⟩=_:=hk3 0 _ rfl
   have x1:=hk3 1 _ rfl
   have x2:=hk3 2 _ rfl
   have x3:=hk3 3 _ rfl
   have x4:=hk3 4 _ rfl
   have x5:=hk3 5 _ rfl
   have x6:=hk3 6 _ rfl
   have x7:=hk3 7 _ rfl
   have x8:=hk3 8 _ rfl
   clear hk3 hkat
   have hb':∀o,Below w.heap.size w (wr.alloc o):=fun o=>hb.alloc hb.size o
   have hh':∀o,Has (wr.alloc o) h:=fun o=>hh.below ((Below.refl wr.heap.size wr).alloc (η _) o)
   cases hl:s.2.l with
   | true=>
    rw[hl] at x7
    gi_wp2
    refine bodyPost_ret (results_tmp rfl _ _ _) rfl ?_
    exact⟨h,hb' _,hh' _,Sub.refl _,fun _ k=>.inl k,by rw[bndB_no hs (by rw[hl];rfl)];rfl⟩
   | false =>
    rw[hl] at x7
    cases hu:s.2.u with
    | true=>
     rw[hu] at x8
     gi_wp2
     refine bodyPost_ret (results_tmp rfl _ _ _) rfl ?_
     exact⟨h,hb' _,hh' _,Sub.refl _,fun _ k=>.inl k,by rw[bndB_no hs (by rw[hu];simp)];rfl⟩
    | false=>
     rw[hu] at x8
     gi_wp2
     go_roundw
     case rel=>exact⟨_,i+1,by omega,by omega,rfl,fun a r ha hr'=>by
      rcases qBj a i with g |g
      ·exact hall a r g hr'
      ·obtain rfl:a=i:=by omega
       rw[hs] at hr';cases hr';rw[hl,hu];rfl,hh' _,hb' _⟩
     case measure=>simp[RowKit.intOf];omega
  ·obtain rfl:l.length=i:=by omega
   gi_wp2
   refine bodyPost_ret (results_tmp rfl _ _ _) rfl ?_
   exact⟨h,hb,hh,Sub.refl _,fun _ k=>.inl k,by rw[bndB_yes hall];rfl⟩
end Go.Q
namespace Go.Q
set_option maxRecDepth 100000
set_option maxHeartbeats 4000000
def rqX (q:Rat):Bool×Nat×Nat:=(decide (q.num < 0),q.num.natAbs,if q.den=1 then 0 else q.den)
def dcA (p:Int) (l:List Sd1) (i:Nat):Out:=match l[i]? with
 |some x=>dsE p x.2 (rqX (midQ x.2.set))
 |none=>.ok .e
theorem ptE_rqX {q:Rat} (h:sz q≤2048):ptE (rqX q)=.ok (ptR (rqX q)).set:=by
 have g:¬lg (decide (q.num < 0)) q.num.natAbs (if q.den=1 then 0 else q.den):=by rw[lg_cn];omega
 have e:qof (decide (q.num < 0)) q.num.natAbs (if q.den=1 then 0 else q.den)=q:=jA q
 have b:(ptR (rqX q)).big=false:=by
  unfold RI.big ptR rqX
  simp only[g,decide_false,Bool.or_self]
 unfold ptE RI.fin
 rw[b]
 have hl:(ptR (rqX q)).set.le 2048:=by
  unfold RI.set RI.lo RI.hi ptR rqX
  dsimp only
  rw[e]
  simp only[cond_false,NS.mk']
  have:ordO (some q) (some q)=true:=by unfold ordO;simp
  rw[this,cond_true,NS.le_i]
  exact⟨fun u h'=>by cases h';exact h,fun u h'=>by cases h';exact h⟩
 unfold Out.fin
 simp only[hl,decide_true,cond_true,cond_false]
theorem dsE_err {p:Int} {s:RI} {y:Bool×Nat×Nat} {e:Int} (gp:bad p=false) (h:dsE p s y=.error e):e=1:=by
 unfold dsE ptE subE at h
 have f1:∀{o:Out} {e:Int},(∀e,o=.error e→e=1)→o.fin=.error e→e=1:=fun {o e} ho h=>by
  cases o with
  |error e'=>cases h;exact ho _ rfl
  |ok z=>rcases AW z with g |g<;>rw[g] at h<;>cases h;rfl
 unfold RI.fin RI.fin2 at h
 cases b:(ptR y).big with
 |true=>rw[b] at h;cases h;rfl
 | false=>
  rw[b,cond_false] at h
  cases ho:Out.fin (.ok (ptR y).set) with
  |error e'=>rw[ho] at h;cases h;exact f1 (fun _ h=>by cases h) ho
  | ok z=>
   rw[ho] at h
   dsimp only at h
   cases b2:s.big || z.ri.big with
   |true=>rw[b2] at h;cases h;rfl
   | false=>
    rw[b2,cond_false] at h
    refine f1 (fun e he=>?_) h
    unfold rnd Out.prec at he
    rw[gp,cond_false] at he
    cases b3:s.set.void || z.ri.set.void<;>rw[b3] at he<;>cases he
theorem dcA_err {p:Int} {l:List Sd1} {i:Nat} {e:Int} (gp:bad p=false) (h:dcA p l i=.error e):e=1:=by
 unfold dcA at h
 cases g:l[i]? with
 |none=>rw[g] at h;cases h
 |some x=>rw[g] at h;exact dsE_err gp h
theorem kidsO_err {f:Nat→Out} {i:Nat} {e:Int} (h:kidsO f i=.error e):∀k,kidsO f (i+k)=.error e
 |0=>h
 | k+1=>by
  show kidsO f (i+k+1)=_
  unfold kidsO
  rw[kidsO_err h k]
theorem kidsO_next {f:Nat→Out} {i:Nat} {l:List NS} {e:Int} (h:kidsO f i=.ok l) (g:f i=.error e):kidsO f (i+1)=.error e:=by
 unfold kidsO
 rw[h,g]
theorem kidsO_ok {f:Nat→Out} {i:Nat} {l:List NS} {z:NS} (h:kidsO f i=.ok l) (g:f i=.ok z):kidsO f (i+1)=.ok (l ++[z]):=by
 unfold kidsO
 rw[h,g]
theorem kidsO_len {f:Nat→Out}:∀{i:Nat} {l:List NS},kidsO f i=.ok l→l.length=i
 |0,l,h=>by cases h;rfl
 | i +1,l,h=>by
  unfold kidsO at h
  cases h1:kidsO f i with
  |error e=>rw[h1] at h;cases h
  | ok l'=>
   rw[h1] at h
   dsimp only at h
   cases h2:f i with
   |error e=>rw[h2] at h;cases h
   |ok z=>rw[h2] at h;cases h;simp[kidsO_len h1]
theorem kidsO_fst {f:Nat→Out}:∀{n:Nat} {e:Int},kidsO f n=.error e→∃i l,i < n∧kidsO f i=.ok l∧f i=.error e
 |0,e,h=>by cases h
 | n +1,e,h=>by
  unfold kidsO at h
  cases h1:kidsO f n with
  | error e'=>
   rw[h1] at h;cases h
   obtain⟨i,l,h2,h3,h4⟩:=kidsO_fst h1
   exact⟨i,l,by omega,h3,h4⟩
  | ok l=>
   rw[h1] at h
   dsimp only at h
   cases h2:f n with
   |error e'=>rw[h2] at h;cases h;exact⟨n,l,by omega,h1,h2⟩
   |ok z=>rw[h2] at h;cases h
def sprO (p:Int) (x:RI) (ks:List (Bool×Nat×Nat)) (l:List Sd1):Out:=
 if okB l=false then .error 50
 else if bad p=true∨ks.length≠l.length∨(x.big=false∧x.set.void=true) then .error 2
 else if (x.big || ks.any fun k=>decide (lg k.1 k.2.1 k.2.2))=true then .error 1
 else if bndB l=false then .error 52
 else if cenOk l=false then .error 1
 else match kidsO (dcA p l) l.length with
  |.error e=>.error e
  | .ok ds=>match spF p x ks ds ks.length with
   |.error e=>.error (undE e)
   |.ok z=>.ok z
open Go.Proofs
set_option maxHeartbeats 8000000
theorem NumSign_no {h0 h:PH} [Le h0 h] {v:Value} {neg:Bool} {n d:Nat} (hv:Rw h0 v neg n d) (hl:lg neg n d):Spec mach 29 #[v] h (fun r _=>r=.tuple #[.int .i64 0,.int .i64 1]) NP:=by
 have kX:=fun {h} [Le h0 h]=>Gm (h:=h) hv hl
 obtain⟨_,_,_,_,_,_,_,rfl,_⟩:=hv.sa
 refine Spec.go [] Tryz.func29 rfl rfl (by kernel_rfl) fun C _=>?_
 try simp(maxSteps:=999999) (disch:=omega) only[go_sem,ξ,ζ]
 refine caN (by exact kX) ?_;rintro v1 h1 s1 ⟨_,_,_,_,_,_,_,rfl⟩
 try simp(maxSteps:=999999) (disch:=omega) only[go_sem,ξ,ζ]
 all_goals rfl

section
variable {M:Mach} {C:Ctx} {n:Nat} {S:AS} {h:PH} {Q:Exit→AS→PH→Prop} {E:List PanicEntry→PH→Prop}
theorem order_o (l:List Nat):order (l.map .o)=l:=by
 induction l with
 |nil=>rfl
 |cons x l ih=>simp[order,ih]
theorem apO {id:Nat} {ops:Array Oper} {b:Bool} {d:Nat} {x y:Operand} {T U V:TypeId} {ps:String} {ar:Array Edge} {sz:Nat} (pl1:List Nat) (i:Nat) (pl2:List Nat) (hi:nth ops.toList i=some ⟨some d,.call {callee:=.builtin .append,args:=#[x,y],argTypes:=#[T,U]},V,ps,ar,none⟩)
  (hU:uk M.P U=.slice) (hz:mkN M.P T sz=true) (hc:(bif b then fi ops (pl1 ++i :: pl2) else (pl1 ++i :: pl2) == List.range ops.size)=true) (hd:d < n) (h1:(prep n ops (pl1.map .o)).isSome=true) (h2:(prep n ops (pl2.map .o)).isSome=true)
  (hw:walkO M E ops.toList (pickO ops.toList pl1) (fun S h=>appN sz S h (S.ev x) (S.ev y) fun S h v=>walkO M E ops.toList (pickO ops.toList pl2) (fun S h=>Q .normal S h) (S.put (some d) v) h) S h):AWP M n C (.region id ops b) Q E S h:=by
 obtain⟨l1,e1⟩:=Option.isSome_iff_exists.1 h1
 obtain⟨l2,e2⟩:=Option.isSome_iff_exists.1 h2
 simp only[oE pl2 l2 e2] at hw
 rw[oE pl1 l1 e1] at hw
 cases b with
 |true=>exact AWP_apD (pl1.map .o) i (pl2.map .o) hi hU hz (by rw[order_o,order_o];exact hc) hd e1 e2 hw
 |false=>exact AWP_app (pl1.map .o) i (pl2.map .o) hi hU hz (by rw[order_o,order_o];exact beq_iff_eq.1 hc) hd e1 e2 hw
end

theorem okB_six {b:List Sd1} (h:okB b=true):b.length≤6:=by
 unfold okB at h
 rw[φ] at h
 exact of_decide_eq_true h.1
end Go.Q
