/-
  The distances of a box's sides from its center, and what stands on it. Conditions: each theorem's own.
-/
import Derived.Test.YtgmcchhklbeckaaGreatDoorK0717e6PkR
import Derived.Test.YtgmcchhklbeckaaGreatDoorKb801f5PkO
import Derived.Test.YtgmcchhklbeckaaGreatDoorK106b90PkS
import Derived.Test.YtgmcchhklbeckaaGreatDoorK2be57cPkQ
import Derived.Test.YtgmcchhklbeckaaGreatDoorK3550acPkG
import Derived.Test.YtgmcchhklbeckaaGreatDoorK440114PkP
set_option linter.unusedVariables false
set_option linter.unusedSimpArgs false
open Nat renaming reduceBEq→ξ,reduceAdd→ζ,le_trans→χ,le_refl→η,mul_le_mul→qAk,zero_le→qBh,lt_or_ge→qBj
open List renaming take_of_length_le→qAr,mem_cons_self→qAt,mem_singleton→qBc,all_eq_true→qBd
namespace Go.Q
open Go.Proofs Go.RowKit
attribute [local go_sem] Oper.semAt_some
set_option maxRecDepth 100000
set_option maxHeartbeats 16000000
def Qv (h:PH) (cs:List Value) (z:NS):Prop:=ivC cs∧Cv h (.agg cs.toArray) z∧z.le 2048
theorem qv_up (a b:PH) (hs:Sub a b) (cs:List Value) (s:NS) (q:Qv a cs s):Qv b cs s:=by
 haveI:Le a b:=⟨hs⟩
 exact⟨q.1,q.2.1.to,q.2.2⟩
def zsF (p:Int) (l:List Sd1) (i:Nat):List NS:=match kidsO (dcA p l) i with
 |.ok zs=>zs
 |.error _=>[]
def sprI (w:World) (h:PH) (l:List Sd1) (p:Int) (va ca:Option Addr) (vc cc:Nat) (i:Nat) (W:World):Prop:=(∃hp u,Col w h (w.heap.size+1+1+1+1) 80 35 8 Qv [(w.heap.size+1+1,#[.slice none 0 0],80),(w.heap.size+1+1+1,#[.int .i64 0],36),(w.heap.size,#[.slice ca l.length cc],41),(w.heap.size+1,#[.int .i64 p],3),(w.heap.size+1+1+1+1+1,#[.slice va l.length vc],28)] (zsF p l i) hp u W)∧∃zs,kidsO (dcA p l) i=.ok zs
def sprX (w:World) (h:PH) (l:List Sd1) (p:Int) (c:Code) (W:World):Prop:=(c=.ret∧kidsO (dcA p l) l.length=.error 1)∧Quit w h [(w.heap.size+1+1,#[.slice none 0 0],80),(w.heap.size+1+1+1,#[.int .i64 1],36)] W
def sprM (w:World) (h:PH) (l:List Sd1) (p:Int) (va ca:Option Addr) (vc cc:Nat) (i:Nat) (x:Nat×List Value) (a':Act) (W:World):Prop:=
 (∃ hp u,(∃Bx s,Col w h (w.heap.size+1+1+1+1) 80 35 8 Qv ((Bx,(.string (nmAt l x.1) :: x.2).toArray,53) :: [(w.heap.size+1+1,#[.slice none 0 0],80),(w.heap.size+1+1+1,#[.int .i64 0],36),(w.heap.size,#[.slice ca l.length cc],41),(w.heap.size+1,#[.int .i64 p],3),(w.heap.size+1+1+1+1+1,#[.slice va l.length vc],28)]) (zsF p l i) hp u W∧l[i]?=some s∧Iv hp (.agg x.2.toArray) s.2∧
    a'={tmps:=#[.slice va l.length vc,.slice ca l.length cc,.int .i64 p,undef,.pointer (some ⟨w.heap.size,0,none⟩),.pointer (some ⟨w.heap.size+1,0,none⟩),.pointer (some ⟨w.heap.size+1+1,0,none⟩),.pointer (some ⟨w.heap.size+1+1+1,0,none⟩),.pointer (some ⟨w.heap.size+1+1+1+1,0,none⟩),.int .i64 x.1,.pointer (some ⟨Bx,0,none⟩),undef,undef,.slice va l.length vc,.func (.func 200) #[] #[.pointer (some ⟨w.heap.size+1+1+1+1+1,0,none⟩)],.int .i64 x.1,.agg (.string (nmAt l x.1) :: x.2).toArray,undef,undef,undef,undef,undef,undef,undef,undef,undef,undef,undef,undef,undef,undef,undef,undef,undef,undef,undef],defers:=[]}))∧
    (x.1=i∧ivC x.2∧∃zs,kidsO (dcA p l) i=.ok zs)
def SprV (h:PH) (r:Value) (p:Int) (l:List Sd1):Prop:=match kidsO (dcA p l) l.length with
 |.error e=>r=.tuple #[.slice none 0 0,.int .i64 e]
 |.ok ds=>∃u,r=.tuple #[u,.int .i64 0]∧Dsv h u ds
theorem dsE_le {p:Int} {s:RI} {y:Bool×Nat×Nat} {z:NS} (h:dsE p s y=.ok z):z.le 2048:=by
 unfold dsE at h
 split at h
 ·cases h
 ·exact fin2_le h
theorem zsF_ok {p:Int} {l:List Sd1} {i:Nat} {zs:List NS} (h:kidsO (dcA p l) i=.ok zs):zsF p l i=zs:=by unfold zsF;rw[h]
theorem Dsv.of {h:PH} {a:Option Addr} {cap:Nat} {zs:List NS} (hl:zs.length≤2^30) (k:∀i z,zs[i]?=some z→∃ad cs,a=some ad∧Qv h cs z∧∀j u,cs[j]?=some u→h.at ((ad.add (i*8)).add j)=some u):Dsv h (.slice a zs.length cap) zs:=by
 have k':∀j,∃C:List Value,∀z,zs[j]?=some z→Qv h C z∧∃ad:Addr,a=some ad∧∀(t:Nat) u,C[t]?=some u→h.at ((ad.add (j*8)).add t)=some u:=fun j=>by
  cases g:zs[j]? with
  |none=>exact⟨[],fun z hz=>by cases hz⟩
  | some z=>
   obtain⟨ad,cs,q1,q2,q3⟩:=k j z g
   exact⟨cs,fun z' hz'=>by cases hz';exact⟨q2,ad,q1,q3⟩⟩
 obtain⟨C,hC⟩:=Classical.axiomOfChoice k'
 refine⟨a,cap,C,rfl,hl,fun j z hj=>?_⟩
 obtain⟨q1,ad,q2,q3⟩:=hC j z hj
 obtain⟨z0,hz0⟩:∃z,zs[0]?=some z:=⟨_,List.getElem?_eq_getElem (by have:=(List.getElem?_eq_some_iff.1 hj).1;omega)⟩
 obtain⟨⟨⟨_,_,_,_,_,_,_,_,_,_,_,_,_,_,_,_,hc0⟩,_⟩,ad',e2',q3'⟩:=hC 0 z0 hz0
 rw[q2] at e2';cases e2'
 have h0':=q3' 0 _ (by rw[hc0];rfl)
 rw[Nat.zero_mul,adr0,adr0] at h0'
 have ha:=at_spot h0'
 refine⟨q1.1,q1.2.1,q1.2.2,ad.block,ad.off,by rw[q2];exact congrArg some ha,fun t u hu=>?_⟩
 have:=q3 t u hu
 rw[ha,adrN,adrN] at this
 exact this
theorem Spreads_ok {h0 h:PH} [l0:Le h0 h] {v cv:Value} {l:List Sd1} {p:Int} (hv:Boxv h0 v l) (hok:okB l=true) (hcv:Pcx h0 cv (l.map cq)) (hce:cenOk l=true) (gp:bad p=false):Spec mach 65 #[v,cv,.int .i64 p] h (fun r h'=>SprV h' r p l) NP:=by
 refine⟨by kernel_rfl,fun w hw hg=>?_⟩
 refine(callsIn_wide (n:=8)).1 ?_
 show CallsIn Fence.wide 8 Tryz.prog _ _ w _
 have hro:Fence.wide.round=none:=rfl
 have hmix:Tryz.prog.follows .mixedOrders=true:=by kernel_rfl
 have htk:tk mach.P 35=some (some 8):=by kernel_rfl
 have g1:Fence.wide.fn 121:=trivial
 have g2:Fence.wide.fn 123:=trivial
 have kX:=fun {B:Nat}=>box_x (n:=8) (B:=B) (T:=28) (f:=(0,0)) hv hg
 have h6:l.length≤6:=okB_six hok
 obtain⟨va,vc,rfl,_⟩:=hv
 obtain⟨ca,cc,rfl,hcp⟩:=hcv
 rw[List.length_map]
 refine callsIn_of_wp_marks Tryz.func65 rfl trivial ?_ hro
 simp only[Tryz.ntmps65,List.size_toArray,List.length_cons,List.length_nil,ζ,Nat.reduceSub,Array.replicate_succ,Array.replicate_zero,List.push_toArray,List.append_toArray,List.nil_append,List.cons_append]
 gi_wp2_with (gi_at_call 121;refine(sides_in (n:=7)).mono ?_;rintro e w2 ⟨rfl,rfl⟩)
 obtain⟨W0,hW0⟩:∃W0,((((((w.alloc (.cells #[.slice ca l.length cc] 41)).alloc (.cells #[.int .i64 p] 3)).alloc (.cells #[.slice none 0 0] 80)).alloc (.cells #[.int .i64 0] 36)).alloc (.cells #[.slice none 0 0] 80)).alloc (.cells #[.slice va l.length vc] 28))=W0:=⟨_,rfl⟩
 rw[hW0]
 have hb0:Below w.heap.size w W0:=by
  rw[←hW0]
  exact((((((Below.refl _ w).alloc (η _) _).alloc (by simp) _).alloc (by simp;omega) _).alloc (by simp;omega) _).alloc (by simp;omega) _).alloc (by simp;omega) _
 have hs0:W0.heap.size=w.heap.size+6:=by rw[←hW0];simp
 have b0:W0.heap[w.heap.size]?=some (.cells #[.slice ca l.length cc] 41 (0,0)):=by
  rw[←hW0]
  refine(Below.heap_alloc _ _ _ (by simp<;>omega)).trans ?_
  refine(Below.heap_alloc _ _ _ (by simp<;>omega)).trans ?_
  refine(Below.heap_alloc _ _ _ (by simp<;>omega)).trans ?_
  refine(Below.heap_alloc _ _ _ (by simp<;>omega)).trans ?_
  refine(Below.heap_alloc _ _ _ (by simp<;>omega)).trans ?_
  simpa using World.alloc_heap_new w (.cells #[.slice ca l.length cc] 41)
 have b1:W0.heap[w.heap.size+1]?=some (.cells #[.int .i64 p] 3 (0,0)):=by
  rw[←hW0]
  refine(Below.heap_alloc _ _ _ (by simp<;>omega)).trans ?_
  refine(Below.heap_alloc _ _ _ (by simp<;>omega)).trans ?_
  refine(Below.heap_alloc _ _ _ (by simp<;>omega)).trans ?_
  refine(Below.heap_alloc _ _ _ (by simp<;>omega)).trans ?_
  simpa using World.alloc_heap_new (w.alloc (.cells #[.slice ca l.length cc] 41)) (.cells #[.int .i64 p] 3)
 have b2:W0.heap[w.heap.size+1+1]?=some (.cells #[.slice none 0 0] 80 (0,0)):=by
  rw[←hW0]
  refine(Below.heap_alloc _ _ _ (by simp<;>omega)).trans ?_
  refine(Below.heap_alloc _ _ _ (by simp<;>omega)).trans ?_
  refine(Below.heap_alloc _ _ _ (by simp<;>omega)).trans ?_
  simpa using World.alloc_heap_new ((w.alloc (.cells #[.slice ca l.length cc] 41)).alloc (.cells #[.int .i64 p] 3)) (.cells #[.slice none 0 0] 80)
 have b3:W0.heap[w.heap.size+1+1+1]?=some (.cells #[.int .i64 0] 36 (0,0)):=by
  rw[←hW0]
  refine(Below.heap_alloc _ _ _ (by simp<;>omega)).trans ?_
  refine(Below.heap_alloc _ _ _ (by simp<;>omega)).trans ?_
  simpa using World.alloc_heap_new (((w.alloc (.cells #[.slice ca l.length cc] 41)).alloc (.cells #[.int .i64 p] 3)).alloc (.cells #[.slice none 0 0] 80)) (.cells #[.int .i64 0] 36)
 have b4:W0.heap[w.heap.size+1+1+1+1]?=some (.cells #[.slice none 0 0] 80 (0,0)):=by
  rw[←hW0]
  refine(Below.heap_alloc _ _ _ (by simp<;>omega)).trans ?_
  simpa using World.alloc_heap_new ((((w.alloc (.cells #[.slice ca l.length cc] 41)).alloc (.cells #[.int .i64 p] 3)).alloc (.cells #[.slice none 0 0] 80)).alloc (.cells #[.int .i64 0] 36)) (.cells #[.slice none 0 0] 80)
 have b5:W0.heap[w.heap.size+1+1+1+1+1]?=some (.cells #[.slice va l.length vc] 28 (0,0)):=by
  rw[←hW0]
  simpa using World.alloc_heap_new (((((w.alloc (.cells #[.slice ca l.length cc] 41)).alloc (.cells #[.int .i64 p] 3)).alloc (.cells #[.slice none 0 0] 80)).alloc (.cells #[.int .i64 0] 36)).alloc (.cells #[.slice none 0 0] 80)) (.cells #[.slice va l.length vc] 28)
 have hw0:Has W0 h:=hw.below hb0
 clear hW0
 have hz0:zsF p l 0=[]:=rfl
 refine range_x (n:=8) hro (by decide) (gf:=200) (lb:=#[.pointer (some ⟨w.heap.size+1+1+1+1+1,0,none⟩)]) rfl trivial (enters_of Tryz.func200 (by kernel_rfl) rfl)
  kX (fun W hb=>⟨hw0.below hb,(hb.block _ (by omega)).trans b5⟩) (fun _=>rfl)
  (sprI w h l p va ca vc cc) (sprX w h l p)
  (col_own (by omega) (fun i=>zsF p l i) (fun i=>∃zs,kidsO (dcA p l) i=.ok zs)) (quit_own (by omega) (fun c=>c=Code.ret∧kidsO (dcA p l) l.length=.error 1) (fun _=>_)) (fun i W ⟨⟨hp,u,c⟩,_⟩=>⟨fun b cs hx=>c.has b cs (c.sub _ _ hx),(c.rest _ (List.mem_cons_of_mem _ (List.mem_cons_of_mem _ (List.mem_cons_of_mem _ (List.mem_cons_of_mem _ (qAt ..)))))).1⟩)
  ⟨⟨h,_,hz0▸Col.start hw hb0 (by omega) b4 (fun x hx=>by
   simp only[List.mem_cons,List.not_mem_nil,or_false] at hx
   rcases hx with rfl |rfl |rfl |rfl |rfl
   ·exact⟨b2,by show _≤w.heap.size+1+1;omega,by show w.heap.size+1+1≠_;omega⟩
   ·exact⟨b3,by show _≤w.heap.size+1+1+1;omega,by show w.heap.size+1+1+1≠_;omega⟩
   ·exact⟨b0,η _,by show w.heap.size≠_;omega⟩
   ·exact⟨b1,by show _≤w.heap.size+1;omega,by show w.heap.size+1≠_;omega⟩
   ·exact⟨b5,by show _≤w.heap.size+1+1+1+1+1;omega,by show w.heap.size+1+1+1+1+1≠_;omega⟩)⟩,[],rfl⟩
  (sprM w h l p va ca vc cc)
  (fun i x a' _ _ _ _ ⟨⟨hp,u,Bx,s,c,q⟩,g⟩ hg hr=>⟨⟨hp,u,Bx,s,c.kept hg fun r e=>⟨χ (by omega) (hr r e).1,(hr r e).2⟩,q⟩,g⟩)
  ?assign ?body ?done ?stop
 case assign=>
  rintro lr i ⟨xi,xl⟩ Wa W hi ⟨⟨hp,u,c⟩,hG⟩ hgr _ ⟨rfl,⟨p1,p2,p3,p4,p5,p6,p7,p8,p9,p10,p11,p12,p13,p14,p15,p16,rfl⟩,hn,s,h1,h2,h3,h4,h5⟩
  obtain⟨hj,c2,j2,_⟩:=c.meet hgr h2 h3 h4 qv_up
  haveI:Le hn hj:=⟨j2⟩
  dsimp only
  gi_wp2
  refine⟨(KeepsOthers.alloc _ _).from _,?_⟩
  unfold sprM
  exact⟨⟨hj,u,_,s,c2.push _ _,h1,h5.to,rfl⟩,rfl,⟨_,_,_,_,_,_,_,_,_,_,_,_,_,_,_,_,rfl⟩,hG⟩
 case body=>
  rintro lr i ⟨xi,xl⟩ a' W hi ⟨⟨hp,u,Bx,s,c,h1,h5,rfl⟩,rfl,⟨p1,p2,p3,p4,p5,p6,p7,p8,p9,p10,p11,p12,p13,p14,p15,p16,rfl⟩,zs,hz⟩
  dsimp only at c h5 ⊢
  rw[zsF_ok hz] at c
  have hBx:=(c.rest _ (qAt ..)).1
  have hB0:=(c.rest _ (List.mem_cons_of_mem _ (List.mem_cons_of_mem _ (List.mem_cons_of_mem _ (qAt ..))))).1
  have hB1:=(c.rest _ (List.mem_cons_of_mem _ (List.mem_cons_of_mem _ (List.mem_cons_of_mem _ (List.mem_cons_of_mem _ (qAt ..)))))).1
  dsimp only at hBx hB0 hB1
  have dq:dcA p l xi=dsE p s.2 (rqX (midQ s.2.set)):=by unfold dcA;rw[h1]
  have hsq:sz (midQ s.2.set)≤2048:=of_decide_eq_true (qBd.1 hce s (List.mem_of_getElem? h1))
  obtain⟨ad,cs,rfl,⟨ds,rfl,hdl,hcn⟩,hat⟩:=hcp xi (cq s) (by rw[List.getElem?_map,h1];rfl)
  obtain⟨cb,co,rfl⟩:∃cb co,ad=⟨cb,co,none⟩:=by
   obtain⟨s0,hs0⟩:∃s,l[0]?=some s:=⟨_,List.getElem?_eq_getElem (by omega)⟩
   obtain⟨ad',cs',e,⟨ds',rfl,_⟩,hat'⟩:=hcp 0 (cq s0) (by rw[List.getElem?_map,hs0];rfl)
   cases e
   have:=hat' 0 _ rfl
   rw[Nat.zero_mul,adr0,adr0] at this
   exact⟨_,_,at_spot this⟩
  obtain⟨m0,q1,q2,q3,q4,q5,q6,hde,hcn⟩:=hcn.sa
  have hde:ds=[.bool m0,.slice q1 q2 q3,.slice q4 q5 q6]:=by simpa using hde
  subst hde
  haveI:Le h0 hp:=⟨fun k cs hx=>c.sub _ _ (l0.sub _ _ hx)⟩
  have kS:=SpreadS_spec (h0:=hp) (h:=hp) (s:=nmAt l xi) (p:=p) (y:=rqX (midQ s.2.set)) h5 ((hcn.to (h':=hp)).rw (χ hsq (by decide)))
  rw[←dq] at kS
  have hcc:∀(j:Nat) u,([.string (cq s).1,.bool m0,.slice q1 q2 q3,.slice q4 q5 q6]:List Value)[j]?=some u→W.cell? ⟨cb,co+xi*4+j,none⟩=some u:=fun j u hu=>by
   have:=hat j u hu
   rw[adrN,adrN] at this
   exact c.has.cell ((c.sub.trans (Sub.refl _)).at (l0.sub.at this))
  have x1:W.cell? ⟨cb,co+xi*4+1,none⟩=some (.bool m0):=hcc 1 _ rfl
  have x2:W.cell? ⟨cb,co+xi*4+2,none⟩=some (.slice q1 q2 q3):=hcc 2 _ rfl
  have x3:W.cell? ⟨cb,co+xi*4+3,none⟩=some (.slice q4 q5 q6):=hcc 3 _ rfl
  clear hcc
  have hi2:(xi:Int) < (l.length:Int):=by omega
  have F:=fun w' (hb:Below W.drew.heap.size W.drew w')=>(let q:=fun t=>bx_cell hBx t;And.intro (cellB (w:=W.drew) hb (q 0)) (And.intro (cellB (w:=W.drew) hb (q 1)) (And.intro (cellB (w:=W.drew) hb (q 2)) (And.intro (cellB (w:=W.drew) hb (q 3)) (And.intro (cellB (w:=W.drew) hb (q 4)) (And.intro (cellB (w:=W.drew) hb (q 5)) (And.intro (cellB (w:=W.drew) hb (q 6)) (And.intro (cellB (w:=W.drew) hb (q 7)) (And.intro (cellB (w:=W.drew) hb (q 8)) (And.intro (cellB (w:=W.drew) hb (bx_cell hB0 0)) (And.intro (cellB (w:=W.drew) hb (bx_cell hB1 0)) (And.intro (cellB (w:=W.drew) hb x1) (And.intro (cellB (w:=W.drew) hb x2) (cellB (w:=W.drew) hb x3))))))))))))))
  gi_wp2
  refine wpIn_region_b hmix ?_
  refine tkRd 0 (Plain.no (by kernel_rfl)) rfl (by kernel_rfl) (fun _ _ _ h=>h) (fun _=>rfl) (v:=?_) (fun w' hb=>?_) ?_
  rotate_left
  ·obtain⟨y0,y1,y2,y3,y4,y5,y6,y7,y8,z0,z1,z2,z3,z4⟩:=F w' hb
   go_simp<;>rfl
  go_simp
  refine tkRd 1 (Plain.no (by kernel_rfl)) rfl (by kernel_rfl) (fun _ _ _ h=>h) (fun _=>rfl) (v:=?_) (fun w' hb=>?_) ?_
  rotate_left
  ·obtain⟨y0,y1,y2,y3,y4,y5,y6,y7,y8,z0,z1,z2,z3,z4⟩:=F w' hb
   go_simp<;>rfl
  go_simp
  refine tkPd 2 (Plain.no (by kernel_rfl)) rfl (by kernel_rfl) (fun _ _ _ h=>h) (fun _=>rfl) (v:=?_) (fun w'=>?_) ?_
  rotate_left
  ·go_simp<;>rfl
  go_simp
  refine tkPd 3 (Plain.no (by kernel_rfl)) rfl (by kernel_rfl) (fun _ _ _ h=>h) (fun _=>rfl) (v:=?_) (fun w'=>?_) ?_
  rotate_left
  ·go_simp<;>rfl
  go_simp
  refine tkPd 4 (Plain.no (by kernel_rfl)) rfl (by kernel_rfl) (fun _ _ _ h=>h) (fun _=>rfl) (v:=?_) (fun w'=>?_) ?_
  rotate_left
  ·go_simp<;>rfl
  go_simp
  refine tkRd 5 (Plain.no (by kernel_rfl)) rfl (by kernel_rfl) (fun _ _ _ h=>h) (fun _=>rfl) (v:=?_) (fun w' hb=>?_) ?_
  rotate_left
  ·obtain⟨y0,y1,y2,y3,y4,y5,y6,y7,y8,z0,z1,z2,z3,z4⟩:=F w' hb
   go_simp<;>rfl
  go_simp
  refine tkRd 6 (Plain.no (by kernel_rfl)) rfl (by kernel_rfl) (fun _ _ _ h=>h) (fun _=>rfl) (v:=?_) (fun w' hb=>?_) ?_
  rotate_left
  ·obtain⟨y0,y1,y2,y3,y4,y5,y6,y7,y8,z0,z1,z2,z3,z4⟩:=F w' hb
   go_simp<;>rfl
  go_simp
  refine tp2 7 11 rfl rfl rfl rfl (by kernel_rfl) (fun K' hK'=>?callF) (fun K' hK'=>?allocF)
  case' allocF=>
   go_simp
   refine hK' _ _ ⟨.inr (.inr ((Below.refl _ W.drew).alloc (η _) _)),?_⟩
   clear hK' K'
   go_simp
   have c2:=(c.up (Sub.refl _) (c.has.below (gt W)) (gt W) (fun _ h=>.inl h) (fun _ _ q=>q)).push #[.bool false,.slice none 0 0,.slice none 0 0,.bool false,.slice none 0 0,.slice none 0 0,.bool false,.bool false] 35
   refine tpOne 7 rfl rfl (by kernel_rfl) fun K' hK'=>?_
   go_simp
   refine(CallsIn.inRound lr (callsIn_wide.2 (kS.run _ c2.has (hg.trans c.sub)))).mono ?_
   intro e W4 hP;obtain⟨u1,h2,rfl,t1,t2,t3,t4,r⟩:=post_ret hP;clear hP
   obtain⟨r1,r2,r3,r4,r5,r6,r7,r8,r9,r10,r11,r12,r13,r14,r15,r16,e,rfl,r⟩:=r.sa
   refine hK' _ _ ⟨.inr (.inr t1),?_⟩
   clear hK' K'
   go_simp
   have c3:=c2.up t3 t2 t1 t4 (qv_up _ _ t3)
   refine tkPd 8 (Plain.no (by kernel_rfl)) rfl (by kernel_rfl) (fun _ _ _ h=>h) (fun _=>rfl) (v:=?_) (fun w'=>?_) ?_
   rotate_left
   ·go_simp<;>rfl
   go_simp
   refine tkPd 9 (Plain.no (by kernel_rfl)) rfl (by kernel_rfl) (fun _ _ _ h=>h) (fun _=>rfl) (v:=?_) (fun w'=>?_) ?_
   rotate_left
   ·go_simp<;>rfl
   go_simp
   refine tkPd 10 (Plain.no (by kernel_rfl)) rfl (by kernel_rfl) (fun _ _ _ h=>h) (fun _=>rfl) (v:=?_) (fun w'=>?_) ?_
   rotate_left
   ·go_simp<;>rfl
   go_simp
   have hB5:Below W.heap.size W W4:=((gt W).alloc (η _) _).trans (t1.mono (by simp))
   have hT:W.heap.size≤W.heap.size:=η _
   rw[show W.drew.heap.size=W.heap.size from rfl] at c3
   generalize hTT:W.heap.size=TT at c3 hT ⊢
   rw[←hTT] at hT
   have hT:W.heap.size≤TT:=by omega
   generalize W4=W5 at c3 hB5 t2 ⊢
   clear hTT c2 t1 t2 t4
  case' callF=>
   go_simp
   refine(CallsIn.inRound lr (callsIn_wide.2 (kS.run _ (c.has.below (gt W)) (hg.trans c.sub)))).mono ?_
   intro e W4 hP;obtain⟨u1,h2,rfl,t1,t2,t3,t4,r⟩:=post_ret hP;clear hP
   obtain⟨r1,r2,r3,r4,r5,r6,r7,r8,r9,r10,r11,r12,r13,r14,r15,r16,e,rfl,r⟩:=r.sa
   refine hK' _ _ ⟨.inr (.inr t1),?_⟩
   clear hK' K'
   go_simp
   have c2:=c.up t3 t2 ((gt W).trans t1) t4 (qv_up _ _ t3)
   refine tkPd 8 (Plain.no (by kernel_rfl)) rfl (by kernel_rfl) (fun _ _ _ h=>h) (fun _=>rfl) (v:=?_) (fun w'=>?_) ?_
   rotate_left
   ·go_simp<;>rfl
   go_simp
   refine tkPd 9 (Plain.no (by kernel_rfl)) rfl (by kernel_rfl) (fun _ _ _ h=>h) (fun _=>rfl) (v:=?_) (fun w'=>?_) ?_
   rotate_left
   ·go_simp<;>rfl
   go_simp
   refine tkPd 10 (Plain.no (by kernel_rfl)) rfl (by kernel_rfl) (fun _ _ _ h=>h) (fun _=>rfl) (v:=?_) (fun w'=>?_) ?_
   rotate_left
   ·go_simp<;>rfl
   go_simp
   refine tpOne 11 rfl rfl (by kernel_rfl) fun K' hK'=>?_
   go_simp
   refine hK' _ _ ⟨.inr (.inr ((Below.refl _ W4).alloc (η _) _)),?_⟩
   clear hK' K'
   go_simp
   have c3:=c2.push #[.bool false,.slice none 0 0,.slice none 0 0,.bool false,.slice none 0 0,.slice none 0 0,.bool false,.bool false] 35
   have hB5:Below W.heap.size W (W4.alloc (.cells #[.bool false,.slice none 0 0,.slice none 0 0,.bool false,.slice none 0 0,.slice none 0 0,.bool false,.bool false] 35)):=((gt W).trans t1).alloc (((gt W).trans t1).size) _
   have hT:W.heap.size≤W4.heap.size:=((gt W).trans t1).size
   generalize W4.heap.size=TT at c3 hT ⊢
   generalize W4.alloc (.cells #[.bool false,.slice none 0 0,.slice none 0 0,.bool false,.slice none 0 0,.slice none 0 0,.bool false,.bool false] 35)=W5 at c3 hB5 ⊢
   clear c2 t1 t2 t4
  all_goals
   refine tpOne 12 rfl rfl (by kernel_rfl) fun K' hK'=>?_
   have hTc:=(c3.rest _ (qAt ..)).1
   refine wpIn_store_box (M:=mach) rfl TT 0 [.bool r1,.slice r2 r3 r4,.slice r5 r6 r7,.bool r8,.slice r9 r10 r11,.slice r12 r13 r14,.bool r15,.bool r16] #[.bool false,.slice none 0 0,.slice none 0 0,.bool false,.slice none 0 0,.slice none 0 0,.bool false,.bool false] rfl (by go_simp<;>rfl) (by go_simp<;>rfl) htk rfl rfl hTc (by simp) ?_
   intro W6 hW6 hg6
   refine hK' _ _ ⟨.inl rfl,?_⟩
   clear hK' K'
   go_simp
   refine tkPd 13 (Plain.no (by kernel_rfl)) rfl (by kernel_rfl) (fun _ _ _ h=>h) (fun _=>rfl) (v:=?_) (fun w'=>?_) ?_
   rotate_left
   ·go_simp<;>rfl
   go_simp
   refine doneB (by kernel_rfl) ?_ 0
   have c4:=c3.touch (qAt ..) hg6 (R':=[(w.heap.size+1+1,#[.slice none 0 0],80),(w.heap.size+1+1+1,#[.int .i64 0],36),(w.heap.size,#[.slice (some ⟨cb,co,none⟩) l.length cc],41),(w.heap.size+1,#[.int .i64 p],3),(w.heap.size+1+1+1+1+1,#[.slice va l.length vc],28)]) (fun x hx=>by
    have hx':=List.mem_cons_of_mem (Bx,(.string (nmAt l xi) :: [.bool p1,.slice p2 p3 p4,.slice p5 p6 p7,.bool p8,.slice p9 p10 p11,.slice p12 p13 p14,.bool p15,.bool p16]).toArray,53) hx
    have:=(Array.getElem?_eq_some_iff.1 (c.rest x hx').1).1
    exact⟨List.mem_cons_of_mem _ hx',by omega⟩)
   have hkp:∀D,KeepsFrom D W W6:=fun D=>(keeps_of_below hB5).trans ((KeepsOthers.of_grownBy hg6 (fun j o ej hj=>by cases ej;rw[hTc] at hj;cases hj;rfl)).from _)
   have e0:Boxed W6 (w.heap.size+1+1) 80 (.slice none 0 0):=(c4.rest _ (qAt ..)).1
   have e1:Boxed W6 (w.heap.size+1+1+1) 36 (.int .i64 0):=(c4.rest _ (List.mem_cons_of_mem _ (qAt ..))).1
   have f0:=e0.cell
   have f1:=e0.frozen
   have f2:=fun v=>(e1.kept (grownBy_setCell' W6 (w.heap.size+1+1) v) (by simp)).cell
   have f3:=fun v=>(e1.kept (grownBy_setCell' W6 (w.heap.size+1+1) v) (by simp)).frozen
   cases hE:dcA p l xi with
   | error e'=>
    obtain rfl:=dcA_err gp hE
    rw[hE] at r
    unfold Ir zIv at r
    obtain⟨-,rfl⟩:_∧e=1:=by simpa using r
    gi_wp2
    obtain⟨d1,d2,d3⟩:=(c4.less (R':=[(w.heap.size+1+1,#[.slice none 0 0],80),(w.heap.size+1+1+1,#[.int .i64 0],36),(w.heap.size,#[.slice (some ⟨cb,co,none⟩) l.length cc],41),(w.heap.size+1,#[.int .i64 p],3),(w.heap.size+1+1+1+1+1,#[.slice va l.length vc],28)]) (fun x hx=>hx)).two (.slice none 0 0) (.int .i64 1)
    refine⟨(hkp _).trans (((KeepsOthers.setCell _ _ _).trans (KeepsOthers.setCell _ _ _)).from _),?_⟩
    unfold sprX
    refine⟨⟨rfl,by have:=kidsO_err (kidsO_next hz hE) (l.length - (xi+1));rwa[show xi+1+(l.length - (xi+1))=l.length by omega] at this⟩,d1.quit fun x hx=>?_⟩
    rcases List.mem_cons.1 hx with rfl |hx
    ·exact d2
    ·rcases List.mem_cons.1 hx with rfl |hx
     ·exact d3
     ·cases hx
   | ok z=>
    rw[hE] at r
    obtain⟨u2,hu2,hcz⟩:=r
    obtain⟨rfl,rfl⟩:u2=_∧e=0:=by
     simp only[Value.tuple.injEq,Array.mk.injEq,List.cons.injEq,and_true,Value.int.injEq,true_and] at hu2
     exact⟨hu2.1.symm,hu2.2⟩
    have hzl:z.le 2048:=by unfold dcA at hE;rw[h1] at hE;exact dsE_le hE
    obtain⟨e0',i0,z0,hU,hi0,hz0,hz1,hz2,_,hy1,hy2⟩:=mkN_some (P:=Tryz.prog) (T:=80) (sz:=8) (by kernel_rfl)
    obtain rfl:e0'=35:=by have:=hU.symm.trans Tryz.underlying80;simpa using this
    have hlen:zs.length≤6:=by rw[kidsO_len hz];omega
    obtain⟨xs,hx,hR⟩:=c4.row
    have v0:=bx_cell hW6 0
    have v1:=bx_cell hW6 1
    have v2:=bx_cell hW6 2
    have v3:=bx_cell hW6 3
    have v4:=bx_cell hW6 4
    have v5:=bx_cell hW6 5
    have v6:=bx_cell hW6 6
    have v7:=bx_cell hW6 7
    have cb0:=c4.box.cell
    gi_wp2_with (gi_at_builtin;refine wpListIn_append_own_at _ rfl _ _ 80 rfl w.heap.size 35 i0 z0 8 i0.bytes hU hi0 hz0 hz1 rfl hz2 (by decide) u _ xs rfl (hx.alloc _) ⟨W6.heap.size,0,none⟩ 1 1 [.bool r1,.slice r2 r3 r4,.slice r5 r6 r7,.bool r8,.slice r9 r10 r11,.slice r12 r13 r14,.bool r15,.bool r16] rfl rfl ?_ (by simp[Value.oneCell']) (by unfold maxLen;omega) ?_ ?_ ?_)
    ·exact χ (qAk (Nat.succ_le_succ hlen) hy2) (by decide)
    ·have:=c4.below.size
     simp;omega
    ·intro v' w1 hown hgrow _ hat
     obtain⟨g',cap',e'⟩:=ownsRow_succ hown
     obtain⟨k1,k2,k3⟩:=c4.app (s:=z) (cs:=[.bool r1,.slice r2 r3 r4,.slice r5 r6 r7,.bool r8,.slice r9 r10 r11,.slice r12 r13 r14,.bool r15,.bool r16]) (by decide) (by omega) hx hR rfl ⟨⟨_,_,_,_,_,_,_,_,_,_,_,_,_,_,_,_,rfl⟩,hcz,hzl⟩ (by simpa using hown) hgrow (by simpa using hat)
     have q1:=k1.cell
     have q2:=k1.frozen
     subst e'
     gi_wp2
     refine⟨(hkp _).trans (k3.from _),?_⟩
     unfold sprI
     have hk:=kidsO_ok hz hE
     exact⟨⟨h2,_,by rw[zsF_ok hk];exact k2⟩,_,hk⟩
 case done=>
  rintro D W hD ⟨⟨hp,u,c⟩,zs,hz⟩ hK
  rw[zsF_ok hz] at c
  have hzl:=kidsO_len hz
  obtain⟨ua,un,uc,rfl⟩:∃a n c,u=.slice a n c:=by
   obtain⟨xs,h1,_⟩:=c.row
   rcases h1.2 with⟨rfl,_⟩ |⟨g,cap,cur,rfl,_⟩
   ·exact⟨_,_,_,rfl⟩
   ·exact⟨_,_,_,rfl⟩
  have r0:Boxed W (w.heap.size+1+1) 80 (.slice none 0 0):=(c.rest _ (qAt ..)).1
  have r1:Boxed W (w.heap.size+1+1+1) 36 (.int .i64 0):=(c.rest _ (List.mem_cons_of_mem _ (qAt ..))).1
  have e0:=c.box.cell
  have e1:=r0.cell
  have e2:=r0.frozen
  have e3:=fun v=>(r1.kept (grownBy_setCell' W (w.heap.size+1+1) v) (by simp)).cell
  have e4:=fun v=>(r1.kept (grownBy_setCell' W (w.heap.size+1+1) v) (by simp)).frozen
  gi_wp2
  have hK2:=((KeepsOthers.setCell W ⟨w.heap.size+1+1,0,none⟩ (.slice ua un uc)).trans (KeepsOthers.setCell _ ⟨w.heap.size+1+1+1,0,none⟩ (.int .i64 0))).same D _ hK rfl
  obtain⟨t1,t2,t3⟩:=c.two (.slice ua un uc) (.int .i64 0)
  have f2:=(t2.kept (grownBy_putObj' _ D (.deferred none)) (by simp;omega)).cell
  have f3:=(t3.kept (grownBy_putObj' _ D (.deferred none)) (by simp;omega)).cell
  refine⟨by simp,.inl ⟨_,_,rfl,run_takeDeferred hK2,?_⟩⟩
  refine⟨_,results_cell2 rfl rfl rfl (by go_simp;rfl) (by go_simp;rfl),?_⟩
  have c3:=t1.kept (grownBy_putObj' _ D (.deferred none)) (fun r e=>by cases e;exact⟨by omega,_,hK2,rfl⟩)
  obtain⟨hf,m1,m2,m3,a,cap,e,k⟩:=c3.fin (qv_up _)
  refine⟨hf,c3.below,m1,m2,m3,?_⟩
  unfold SprV
  rw[hz]
  refine⟨_,rfl,?_⟩
  rw[e]
  exact Dsv.of (by omega) k
 case stop=>
  rintro D cc W hD ⟨⟨rfl,hcen⟩,hp,m1,m2,m3,m4,m5⟩ hK
  have b0:Boxed W (w.heap.size+1+1) 80 (.slice none 0 0):=m5 _ (qAt ..)
  have b1:Boxed W (w.heap.size+1+1+1) 36 (.int .i64 1):=m5 _ (List.mem_cons_of_mem _ (qAt ..))
  gi_wp2
  have f2:=(b0.kept (grownBy_putObj' _ D (.deferred none)) (by simp;omega)).cell
  have f3:=(b1.kept (grownBy_putObj' _ D (.deferred none)) (by simp;omega)).cell
  refine⟨by simp,.inl ⟨_,_,rfl,run_takeDeferred hK,?_⟩⟩
  refine⟨_,results_cell2 rfl rfl rfl (by go_simp;rfl) (by go_simp;rfl),?_⟩
  refine⟨hp,m4.grown (grownBy_putObj' _ D (.deferred none)) m4.size (fun k e=>by cases e;omega),m2.kept (grownBy_putObj' _ D (.deferred none)) (fun r e=>?_),m1,m3,?_⟩
  ·cases e
   cases ex:hp D with
   |none=>rfl
   | some cs=>
    obtain⟨_,_,hx⟩:=m2 _ _ ex
    rw[hK] at hx;cases hx
  ·unfold SprV
   rw[hcen]
end Go.Q
namespace Go.Q
open Go.Proofs
set_option maxRecDepth 100000
set_option maxHeartbeats 16000000
theorem Dsv.to {h h':PH} (t:Sub h h') {v:Value} {l:List NS} (q:Dsv h v l):Dsv h' v l:=by
 haveI:Le h h':=⟨t⟩
 obtain⟨a,c,C,e,hl,k⟩:=q
 refine⟨a,c,C,e,hl,fun j z hj=>?_⟩
 obtain⟨k1,k2,k3,b,o,k4,k5⟩:=k j z hj
 exact⟨k1,k2.to,k3,b,o,k4,fun t' u hu=>t.at (k5 t' u hu)⟩
def NlR (h:PH) (r:Value) (p:Int) (l:List Sd1):Prop:=match cenOk l with
 |false=>r=.tuple #[.pointer none,.int .i64 1]
 | true=>match kidsO (dcA p l) l.length with
  |.error e=>r=.tuple #[.pointer none,.int .i64 e]
  |.ok ds=>∃Lb vb vc vd,r=.tuple #[.pointer (some ⟨Lb,0,none⟩),.int .i64 0]∧h Lb=some #[vb,vc,vd,.int .i64 p]∧Dsv h vd ds
theorem NewLiner_spec {h0 h:PH} [Le h0 h] {v:Value} {l:List Sd1} {p:Int} (hv:Boxv h0 v l) (hok:okB l=true) (gp:bad p=false):Spec mach 31 #[v,.int .i64 p] h (fun r h'=>NlR h' r p l) NP:=by
 have kC:=fun {h} [Le h0 h]=>center_ok (h:=h) hv hok
 have kS:=fun {h1:PH} [Le h0 h1] {cv:Value} (hc:Pcx h1 cv (l.map cq)) (hce:cenOk l=true) {h} [Le h1 h]=>Spreads_ok (h0:=h1) (h:=h) (hv.to (h':=h1)) hok hc hce gp
 obtain⟨_,_,_,rfl⟩:=hv.sa
 unfold NlR
 unfold CenV at kC
 cases hce:cenOk l with
 | false=>
  rw[hce] at kC
  refine Spec.go [] Tryz.func31 rfl rfl (by kernel_rfl) fun C _=>?_
  try simp(maxSteps:=999999) (disch:=omega) only[go_sem,ξ,ζ]
  refine caN (by exact kC) ?_;rintro _ h1 s1 rfl
  try simp(maxSteps:=999999) (disch:=omega) only[go_sem,ξ,ζ]
  all_goals rfl
 | true=>
  rw[hce] at kC
  unfold SprV at kS
  cases hk:kidsO (dcA p l) l.length with
  | error e=>
   rw[hk] at kS
   obtain⟨i,zs,_,_,hf⟩:=kidsO_fst hk
   obtain rfl:=dcA_err gp hf
   refine Spec.go [] Tryz.func31 rfl rfl (by kernel_rfl) fun C _=>?_
   try simp(maxSteps:=999999) (disch:=omega) only[go_sem,ξ,ζ]
   refine caN (by exact kC) ?_;rintro _ h1 s1 ⟨u,rfl,q2⟩;have q2':=q2;obtain⟨_,_,rfl,_⟩:=q2'
   try simp(maxSteps:=999999) (disch:=omega) only[go_sem,ξ,ζ]
   refine caN (by exact kS q2 hce) ?_;rintro _ h2 s2 rfl
   try simp(maxSteps:=999999) (disch:=omega) only[go_sem,ξ,ζ]
   all_goals rfl
  | ok ds=>
   rw[hk] at kS
   refine Spec.go [(7,.t (.s [0,1,2,3,4,5] (.p 0 (.s [6,7] .d))))] Tryz.func31 rfl rfl (by kernel_rfl) fun C _=>?_
   try simp(maxSteps:=999999) (disch:=omega) only[go_sem,ξ,ζ]
   refine caN (by exact kC) ?_;rintro _ h1 s1 ⟨u,rfl,q2⟩;have q2':=q2;obtain⟨_,_,rfl,_⟩:=q2'
   try simp(maxSteps:=999999) (disch:=omega) only[go_sem,ξ,ζ]
   refine caN (by exact kS q2 hce) ?_;rintro _ h2 s2 ⟨u3,rfl,q3⟩;have q3':=q3;obtain⟨_,_,_,rfl,_⟩:=q3'
   try simp(maxSteps:=999999) (disch:=omega) only[go_sem,ξ,ζ]
   intro b h3 st3 hb
   try simp(maxSteps:=999999) (disch:=omega) only[go_sem,ξ,ζ]
   have hb:=hb (by simp)
   exact⟨_,_,_,_,rfl,hb,Dsv.to st3.sub q3⟩
theorem Rats.to {h h':PH} {v:Value} {l:List (Bool×Nat×Nat)} (r:Rats h v l) [t:Le h h']:Rats h' v l:=by
 obtain⟨a,c,e,hl,k⟩:=r
 refine⟨a,c,e,hl,fun j x hj=>?_⟩
 obtain⟨ad,a1,m1,c1,a2,m2,c2,e2,k1,k2⟩:=k j x hj
 exact⟨ad,a1,m1,c1,a2,m2,c2,e2,fun t' u hu=>t.sub.at (k1 t' u hu),k2.to⟩
def lgK (k:Bool×Nat×Nat):Bool:=decide (lg k.1 k.2.1 k.2.2)
theorem ptE_small {k:Bool×Nat×Nat} (h:lgK k=false):∃z,ptE k=.ok z:=by
 have g:=of_decide_eq_false h
 have b:(ptR k).big=false:=by
  unfold RI.big ptR
  simp only[g,decide_false,Bool.or_self]
 unfold ptE RI.fin
 rw[b]
 unfold Out.fin
 simp only[RI.le b,decide_true,cond_true,cond_false]
 exact⟨_,rfl⟩
def erK (x:RI) (ks:List (Bool×Nat×Nat)) (i:Nat):Int:=bif x.big || (ks.take i).any lgK then 1 else 0
theorem erK_next {x:RI} {ks:List (Bool×Nat×Nat)} {i:Nat} {k:Bool×Nat×Nat} (hk:ks[i]?=some k):erK x ks (i+1)=bif lgK k then 1 else erK x ks i:=by
 unfold erK
 rw[List.take_add_one,hk,List.any_append]
 cases x.big<;>cases(ks.take i).any lgK<;>cases h:lgK k<;>simp[h]
theorem Spread_spec {h0 h:PH} [Le h0 h] {v:Value} {l:List Sd1} {p:Int} {x:RI} {ks:List (Bool×Nat×Nat)} {sa:Option Addr} {sc:Nat} {b1 b2 e1 e2:Bool} {a1 a2 a3 a4:Option Addr} {m1 k1 m2 k2 m3 k3 m4 k4:Nat}
  (hv:Boxv h0 v l) (hx:Iv h0 (.agg #[.bool b1,.slice a1 m1 k1,.slice a2 m2 k2,.bool b2,.slice a3 m3 k3,.slice a4 m4 k4,.bool e1,.bool e2]) x) (hk:Rats h0 (.slice sa ks.length sc) ks):Spec mach 14 #[.agg #[.bool b1,.slice a1 m1 k1,.slice a2 m2 k2,.bool b2,.slice a3 m3 k3,.slice a4 m4 k4,.bool e1,.bool e2,.slice sa ks.length sc],v,.int .i64 p] h (fun r h'=>Ir h' r (sprO p x ks l)) NP:=by
 have kV:=fun {h} [Le h0 h]=>BValid_spec (h:=h) hv
 have kE:∃be ee,(∀{h:PH} [Le h0 h],Spec mach 19 #[.agg #[.bool b1,.slice a1 m1 k1,.slice a2 m2 k2,.bool b2,.slice a3 m3 k3,.slice a4 m4 k4,.bool e1,.bool e2]] h (fun r _=>r=.tuple #[.bool be,.int .i64 ee]) NP)∧ee=erK x ks 0∧be=decide (x.big=false∧x.set.void=true):=by
  have k:=fun {h:PH} [Le h0 h]=>sI (h:=h) hx
  unfold RI.bo Br at k
  unfold erK
  cases gb:x.big with
  |true=>rw[gb] at k;exact⟨_,1,k,rfl,by simp⟩
  |false=>rw[gb] at k;exact⟨_,0,k,rfl,by cases x.set.void<;>simp⟩
 have kB:=fun {h} [Le h0 h]=>BndP_spec (h:=h) hv
 have kL:=fun(hok:okB l=true) (gp:bad p=false) {h} [Le h0 h]=>NewLiner_spec (h:=h) hv hok gp
 obtain⟨_,hkk⟩:=hk.at_
 obtain⟨va,vc,rfl,hlv,_⟩:=hv.side
 unfold sprO
 cases g1:okB l with
 | false=>
  rw[g1] at kV
  rw[if_pos rfl]
  refine Spec.go [] Tryz.func14 rfl rfl (by kernel_rfl) fun C _=>?_
  try simp(maxSteps:=999999) (disch:=omega) only[go_sem,ξ,ζ]
  refine caN (by exact kV) ?_;rintro _ h1 s1 rfl
  try simp(maxSteps:=999999) (disch:=omega) only[go_sem,ξ,ζ]
  all_goals rfl
 | true=>
  rw[g1] at kV
  rw[if_neg (by decide)]
  obtain⟨be,ee,kE,hee,hbe⟩:=kE
  by_cases c1:p < 0
  ·rw[if_pos (.inl (by unfold bad;simp[c1]))]
   refine Spec.go [] Tryz.func14 rfl rfl (by kernel_rfl) fun C _=>?_
   try simp(maxSteps:=999999) (disch:=omega) only[go_sem,ξ,ζ]
   refine caN (by exact kV) ?_;rintro _ h1 s1 rfl
   try simp(maxSteps:=999999) (disch:=omega) only[go_sem,ξ,ζ]
   refine caN (by exact kE) ?_;rintro _ h2 s2 rfl
   try simp(maxSteps:=999999) (disch:=omega) only[go_sem,ξ,ζ,c1,decide_true]
   all_goals rfl
  by_cases c2:128 < p
  ·rw[if_pos (.inl (by unfold bad;simp[c2]))]
   have c2':p > 128:=c2
   refine Spec.go [] Tryz.func14 rfl rfl (by kernel_rfl) fun C _=>?_
   try simp(maxSteps:=999999) (disch:=omega) only[go_sem,ξ,ζ]
   refine caN (by exact kV) ?_;rintro _ h1 s1 rfl
   try simp(maxSteps:=999999) (disch:=omega) only[go_sem,ξ,ζ]
   refine caN (by exact kE) ?_;rintro _ h2 s2 rfl
   try simp(maxSteps:=999999) (disch:=omega) only[go_sem,ξ,ζ,c1,c2,c2',decide_true,decide_false]
   all_goals rfl
  have c2':¬p > 128:=c2
  have gp:bad p=false:=by unfold bad;simp[c1,c2]
  by_cases c3:¬ks.length=l.length
  ·rw[if_pos (.inr (.inl c3))]
   have c3':((ks.length:Int) != (l.length:Int))=true:=by simp;omega
   refine Spec.go [] Tryz.func14 rfl rfl (by kernel_rfl) fun C _=>?_
   try simp(maxSteps:=999999) (disch:=omega) only[go_sem,ξ,ζ]
   refine caN (by exact kV) ?_;rintro _ h1 s1 rfl
   try simp(maxSteps:=999999) (disch:=omega) only[go_sem,ξ,ζ]
   refine caN (by exact kE) ?_;rintro _ h2 s2 rfl
   try simp(maxSteps:=999999) (disch:=omega) only[go_sem,ξ,ζ,c1,c2,c2',c3',decide_true,decide_false]
   all_goals rfl
  have c3:ks.length=l.length:=by omega
  have c3':((ks.length:Int) != (l.length:Int))=false:=by rw[c3];simp
  by_cases c4:x.big=false∧x.set.void=true
  ·rw[if_pos (.inr (.inr c4))]
   rw[decide_eq_true c4] at hbe
   subst hbe
   have q1:ee=0:=by rw[hee];unfold erK;rw[c4.1];rfl
   subst q1
   refine Spec.go [] Tryz.func14 rfl rfl (by kernel_rfl) fun C _=>?_
   try simp(maxSteps:=999999) (disch:=omega) only[go_sem,ξ,ζ]
   refine caN (by exact kV) ?_;rintro _ h1 s1 rfl
   try simp(maxSteps:=999999) (disch:=omega) only[go_sem,ξ,ζ]
   refine caN (by exact kE) ?_;rintro _ h2 s2 rfl
   try simp(maxSteps:=999999) (disch:=omega) only[go_sem,ξ,ζ,c1,c2,c2',c3',decide_true,decide_false]
   all_goals rfl
  have c5:¬(bad p=true∨ks.length≠l.length∨(x.big=false∧x.set.void=true)):=by
   rintro(k |k |k)
   ·rw[gp] at k;cases k
   ·exact k c3
   ·exact c4 k
  rw[if_neg c5]
  rw[decide_eq_false c4] at hbe
  subst hbe
  have h6:=okB_six g1
  have hz:erK x ks 0=0∨erK x ks 0=1:=by unfold erK;cases x.big || (ks.take 0).any lgK<;>simp
  rw[hee] at kE
  rcases hz with hz |hz
  all_goals
   rw[hz] at kE
   refine Spec.go [] Tryz.func14 rfl rfl (by kernel_rfl) fun C _=>?_
   try simp(maxSteps:=999999) (disch:=omega) only[go_sem,ξ,ζ]
   refine caN (by exact kV) ?_;rintro _ h1 s1 rfl
   try simp(maxSteps:=999999) (disch:=omega) only[go_sem,ξ,ζ]
   refine caN (by exact kE) ?_;rintro _ h2 s2 rfl
   try simp(maxSteps:=999999) (disch:=omega) only[go_sem,ξ,ζ,c1,c2,c2',c3',decide_false]
   refine lp [] (fun i:Nat=>⟨[(1,.v (.slice va l.length vc)),(2,.v (.int .i64 p)),(3,.p 0 0),(6,.p 1 0),(7,.v (.int .i64 0)),(9,.v (.int .i64 (erK x ks i))),(49,.v (.slice sa ks.length sc)),(50,.v (.int .i64 ks.length)),(51,.v (.int .i64 i))],[[.bool b1,.slice a1 m1 k1,.slice a2 m2 k2,.bool b2,.slice a3 m3 k3,.slice a4 m4 k4,.bool e1,.bool e2,.slice sa ks.length sc],[.bool false,.slice none 0 0,.slice none 0 0,.bool false,.slice none 0 0,.slice none 0 0,.bool false,.bool false]]⟩) (fun i h'=>Le h0 h'∧i≤ks.length) (fun i=>ks.length - i) 0 ?_ ⟨inferInstance,qBh _⟩ (by kernel_rfl) ?_
   ·try simp(maxSteps:=999999) (disch:=omega) only[go_sem,ξ,ζ,hz]
    all_goals rfl
   rintro i h4 ⟨le4,hi⟩
   by_cases hl:(i:Int) < (ks.length:Int)
   ·obtain⟨k,hki⟩:∃k,ks[i]?=some k:=⟨_,List.getElem?_eq_getElem (by omega)⟩
    obtain⟨ad,n1,n2,n3,n4,n5,n6,rfl,hat,hrw⟩:=hkk i k hki
    have hn:=erK_next (x:=x) hki
    try simp(maxSteps:=999999) (disch:=omega) only[go_sem,ξ,ζ,hl,decide_true]
    refine Exists.intro [_,_,_] (And.intro rfl (And.intro (fun j u hj=>le4.sub.at (hat j u hj)) ?_))
    try simp(maxSteps:=999999) (disch:=omega) only[go_sem,ξ,ζ]
    cases hg:lgK k with
    | true=>
     rw[hg,cond_true] at hn
     refine caN (by exact NumSign_no (h:=h4) hrw (of_decide_eq_true hg)) ?_;rintro _ h5 s5 rfl
     try simp(maxSteps:=999999) (disch:=omega) only[go_sem,ξ,ζ]
     dsimp only[lpE];refine⟨i+1,?_,⟨inferInstance,by omega⟩,by omega⟩
     try simp(maxSteps:=999999) (disch:=omega) only[go_sem,ξ,ζ,hn]
     all_goals rfl
    | false=>
     rw[hg,cond_false] at hn
     refine caN (by exact NumSign (h:=h4) hrw (of_decide_eq_false hg)) ?_;rintro _ h5 s5 rfl
     try simp(maxSteps:=999999) (disch:=omega) only[go_sem,ξ,ζ]
     dsimp only[lpE];refine⟨i+1,?_,⟨inferInstance,by omega⟩,by omega⟩
     try simp(maxSteps:=999999) (disch:=omega) only[go_sem,ξ,ζ,hn]
     all_goals rfl
   ·obtain rfl:i=ks.length:=by omega
    have hlast:erK x ks ks.length=bif x.big || ks.any (fun k=>decide (lg k.1 k.2.1 k.2.2)) then 1 else 0:=by unfold erK;rw[List.take_length];rfl
    cases g3:(x.big || ks.any fun k=>decide (lg k.1 k.2.1 k.2.2)) with
    | true=>
     rw[g3] at hlast
     have hlast:erK x ks ks.length=1:=hlast
     rw[if_pos rfl]
     try simp(maxSteps:=999999) (disch:=omega) only[go_sem,ξ,ζ,hl,decide_false,hlast]
     all_goals rfl
    | false =>
     rw[g3] at hlast
     have hlast:erK x ks ks.length=0:=hlast
     rw[if_neg (by decide)]
     have hsm:∀(j:Nat) k,ks[j]?=some k→∃z,ptE k=.ok z:=fun j k hj=>ptE_small (by
      rw[Bool.or_eq_false_iff] at g3
      have:=List.any_eq_false.1 g3.2 k (List.mem_of_getElem? hj)
      exact Bool.eq_false_iff.2 this)
     try simp(maxSteps:=999999) (disch:=omega) only[go_sem,ξ,ζ,hl,decide_false,hlast]
     refine caN (by exact kB) ?_;rintro _ h5 s5 rfl
     cases g4:bndB l with
     | false=>
      rw[if_pos rfl]
      try simp(maxSteps:=999999) (disch:=omega) only[go_sem,ξ,ζ]
      all_goals rfl
     | true=>
      rw[if_neg (by decide)]
      try simp(maxSteps:=999999) (disch:=omega) only[go_sem,ξ,ζ]
      have kN:=fun {h} [Le h0 h]=>kL g1 gp (h:=h)
      unfold NlR at kN
      refine caN (by exact kN) ?_;rintro r6 h6' s6 q6
      cases g5:cenOk l with
      | false=>
       rw[g5] at q6
       subst q6
       rw[if_pos rfl]
       try simp(maxSteps:=999999) (disch:=omega) only[go_sem,ξ,ζ]
       refine caN (by exact Undefined_spec) ?_;rintro _ h7 s7 rfl
       try simp(maxSteps:=999999) (disch:=omega) only[go_sem,ξ,ζ]
       all_goals rfl
      | true=>
       rw[g5] at q6
       rw[if_neg (by decide)]
       cases g6:kidsO (dcA p l) l.length with
       | error e=>
        rw[g6] at q6
        obtain⟨_,_,_,_,hf⟩:=kidsO_fst g6
        obtain rfl:=dcA_err gp hf
        subst q6
        try simp(maxSteps:=999999) (disch:=omega) only[go_sem,ξ,ζ]
        refine caN (by exact Undefined_spec) ?_;rintro _ h7 s7 rfl
        try simp(maxSteps:=999999) (disch:=omega) only[go_sem,ξ,ζ]
        all_goals rfl
       | ok ds=>
        rw[g6] at q6
        obtain⟨Lb,vb,vcc,vd,rfl,hL,hD⟩:=q6
        have kS:=fun {h} [Le h6' h]=>Span_spec (h:=h) hL hD (hx.to (h':=h6')) (Rats.to hk) hsm ((kidsO_len g6).trans c3.symm) (by omega)
        try simp(maxSteps:=999999) (disch:=omega) only[go_sem,ξ,ζ]
        refine caN (by exact kS) ?_;rintro _ h7 s7 ⟨d1,f1,f2,f3,f4,f5,f6,d2,f7,f8,f9,f10,f11,f12,d3,d4,e,rfl,q7⟩
        cases g7:spF p x ks ds ks.length with
        | error e'=>
         rw[g7] at q7
         obtain⟨rfl,hne⟩:=q7
         have he2:(e != 0)=true:=by simpa using hne
         try simp(maxSteps:=999999) (disch:=omega) only[go_sem,ξ,ζ,he2]
         refine caN (by exact Undefined_spec) ?_;rintro _ h8 s8 rfl
         try simp(maxSteps:=999999) (disch:=omega) only[go_sem,ξ,ζ]
         all_goals rfl
        | ok z=>
         rw[g7] at q7
         obtain⟨rfl,hle,hcz⟩:=q7
         try simp(maxSteps:=999999) (disch:=omega) only[go_sem,ξ,ζ]
         exact⟨_,rfl,hcz⟩
theorem zo {h0 h:PH} [Le h0 h] {v:Value} {x:NS} (hv:Rr h0 v x) (hf:x.le (2^30)) (hx:x.void=false):Spec mach 212 #[v] h (fun r h'=>Qr h' r (midQ x)) NP:=by
 rw[NS.le_ends (by decide)] at hf
 obtain⟨_,_,_,_,_,_,_,_,_,_,_,_,_,_,rfl,t1,t2⟩:=hv.sa
 cases x with
 |e=>cases hx
 | i a b=>
  dsimp only[NS.void,NS.loN,NS.hiN,NS.lo0,NS.hi0] at*
  cases a with
  | none=>
   cases b with
   | none=>
    dsimp only[Option.isNone,Option.getD] at*
    refine Spec.go [] Tryz.func212 rfl rfl (by kernel_rfl) fun C _=>?_
    try simp(maxSteps:=999999) (disch:=omega) only[go_sem,ξ,ζ]
    refine caN (by exact aF (n:=0) (by decide) (by decide)) ?_;rintro _ h1 _ f1;obtain⟨_,_,_,_,_,_,_,rfl,f1⟩:=f1.sa
    try simp(maxSteps:=999999) (disch:=omega) only[go_sem,ξ,ζ]
    exact f1
   | some b=>
    dsimp only[Option.isNone,Option.getD] at*
    refine Spec.go [] Tryz.func212 rfl rfl (by kernel_rfl) fun C _=>?_
    try simp(maxSteps:=999999) (disch:=omega) only[go_sem,ξ,ζ]
    refine caN (by exact aF (n:=1) (by decide) (by decide)) ?_;rintro _ h1 _ f1;obtain⟨_,_,_,_,_,_,_,rfl,f1⟩:=f1.sa
    try simp(maxSteps:=999999) (disch:=omega) only[go_sem,ξ,ζ]
    refine caN (by exact cR (t2.to (h':=h1)) f1 (by omega) (by decide)) ?_;rintro _ h2 _ f2;obtain⟨_,_,_,_,_,_,_,rfl,f2⟩:=f2.sa
    try simp(maxSteps:=999999) (disch:=omega) only[go_sem,ξ,ζ]
    have e1:midQ (.i none (some b))=b - ((1:Int):Rat):=by show b+((-1:Int):Rat)=_;grind
    rw[e1];exact f2
  | some a=>
   cases b with
   | none=>
    dsimp only[Option.isNone,Option.getD] at*
    refine Spec.go [] Tryz.func212 rfl rfl (by kernel_rfl) fun C _=>?_
    try simp(maxSteps:=999999) (disch:=omega) only[go_sem,ξ,ζ]
    refine caN (by exact aF (n:=1) (by decide) (by decide)) ?_;rintro _ h1 _ f1;obtain⟨_,_,_,_,_,_,_,rfl,f1⟩:=f1.sa
    try simp(maxSteps:=999999) (disch:=omega) only[go_sem,ξ,ζ]
    refine caN (by exact aW (t1.to (h':=h1)) f1 (by omega) (by decide)) ?_;rintro _ h2 _ f2;obtain⟨_,_,_,_,_,_,_,rfl,f2⟩:=f2.sa
    try simp(maxSteps:=999999) (disch:=omega) only[go_sem,ξ,ζ]
    exact f2
   | some b=>
    dsimp only[Option.isNone,Option.getD] at*
    refine Spec.go [] Tryz.func212 rfl rfl (by kernel_rfl) fun C _=>?_
    try simp(maxSteps:=999999) (disch:=omega) only[go_sem,ξ,ζ]
    refine caN (by exact cT t1 t2 (by omega) (by omega)) ?_;rintro _ h2 _ f2;obtain⟨_,_,_,_,_,_,_,rfl,f2⟩:=f2.sa
    try simp(maxSteps:=999999) (disch:=omega) only[go_sem,ξ,ζ]
    exact f2
theorem IN {h0 h:PH} [Le h0 h] {v:Value} {x:RI} (hv:Iv h0 v x):Spec mach 134 #[v] h (fun r h'=>Qo h' r (midO x)) NP:=by
 have hv0:=hv
 obtain⟨a1,m1,c1,a2,m2,c2,a3,m3,c3,a4,m4,c4,rfl,hx,hy⟩:=hv.sa
 unfold midO
 cases g:x.big with
 | true=>
  dsimp only[cond_true]
  refine Spec.go [] Tryz.func134 rfl rfl (by kernel_rfl) fun C _=>?_
  try simp(maxSteps:=999999) (disch:=omega) only[go_sem,ξ,ζ]
  refine caN (by exact e8 (p:=0) hv0 g) ?_;rintro v1 h1 s1 q1;obtain rfl:=q1.err
  try simp(maxSteps:=999999) (disch:=omega) only[go_sem,ξ,ζ]
  all_goals rfl
 | false=>
  dsimp only[cond_false]
  have kO:=fun {h} [Le h0 h]=>fu (h:=h) (p:=0) hv0 g rfl
  have hl:=RI.le30 g
  generalize x.set=s at*
  cases s with
  | e=>
   dsimp only[NS.void,cond_true]
   refine Spec.go [] Tryz.func134 rfl rfl (by kernel_rfl) fun C _=>?_
   try simp(maxSteps:=999999) (disch:=omega) only[go_sem,ξ,ζ]
   refine caN (by exact kO) ?_;rintro v1 h1 s1 q1;obtain⟨_,_,_,_,_,_,_,_,_,_,_,_,_,_,rfl,q2⟩:=q1.ok
   try simp(maxSteps:=999999) (disch:=omega) only[go_sem,ξ,ζ]
   dsimp only[NS.void] at*
   try simp(maxSteps:=999999) (disch:=omega) only[go_sem,ξ,ζ]
   all_goals rfl
  | i a b=>
   dsimp only[NS.void,cond_false]
   by_cases hz:sz (midQ (.i a b))≤2048
   ·rw[decide_eq_true hz,cond_true]
    refine Spec.go [] Tryz.func134 rfl rfl (by kernel_rfl) fun C _=>?_
    try simp(maxSteps:=999999) (disch:=omega) only[go_sem,ξ,ζ]
    refine caN (by exact kO) ?_;rintro v1 h1 s1 q1;obtain⟨_,_,_,_,_,_,_,_,_,_,_,_,_,_,rfl,q2⟩:=q1.ok
    try simp(maxSteps:=999999) (disch:=omega) only[go_sem,ξ,ζ]
    dsimp only[NS.void] at*
    try simp(maxSteps:=999999) (disch:=omega) only[go_sem,ξ,ζ]
    refine caN (by exact zo q2 hl rfl) ?_;rintro _ h2 _ f2;obtain⟨_,_,_,_,_,_,_,rfl,f2⟩:=f2.sa
    try simp(maxSteps:=999999) (disch:=omega) only[go_sem,ξ,ζ]
    refine caN (by exact Done_ok f2 hz) ?_;rintro v3 h3 s3 ⟨u,rfl,q3⟩;obtain⟨_,_,_,_,_,_,_,rfl,q3⟩:=q3.sa
    try simp(maxSteps:=999999) (disch:=omega) only[go_sem,ξ,ζ]
    exact⟨_,rfl,q3⟩
   ·rw[decide_eq_false hz,cond_false]
    refine Spec.go [] Tryz.func134 rfl rfl (by kernel_rfl) fun C _=>?_
    try simp(maxSteps:=999999) (disch:=omega) only[go_sem,ξ,ζ]
    refine caN (by exact kO) ?_;rintro v1 h1 s1 q1;obtain⟨_,_,_,_,_,_,_,_,_,_,_,_,_,_,rfl,q2⟩:=q1.ok
    try simp(maxSteps:=999999) (disch:=omega) only[go_sem,ξ,ζ]
    dsimp only[NS.void] at*
    try simp(maxSteps:=999999) (disch:=omega) only[go_sem,ξ,ζ]
    refine caN (by exact zo q2 hl rfl) ?_;rintro _ h2 _ f2;obtain⟨_,_,_,_,_,_,_,rfl,f2⟩:=f2.sa
    try simp(maxSteps:=999999) (disch:=omega) only[go_sem,ξ,ζ]
    refine caN (by exact Done_no f2 hz) ?_;rintro v3 h3 s3 q3;unfold zRat at q3;subst q3
    try simp(maxSteps:=999999) (disch:=omega) only[go_sem,ξ,ζ]
    all_goals rfl
theorem RCenter_spec {h0 h:PH} [Le h0 h] {v:Value} {l:List Sd1} (hv:Boxv h0 v l):Spec mach 74 #[v] h (fun r h'=>CenR h' r l) NP:=by
 have kV:=fun {h} [Le h0 h]=>RBValid_spec (h:=h) hv
 unfold CenR CenV
 cases hok:okB l with
 | false=>
  rw[hok] at kV
  obtain⟨_,_,_,rfl⟩:=hv.sa
  refine Spec.go [(10,.x),(12,.x)] Tryz.func74 rfl rfl (by kernel_rfl) fun C _=>?_
  try simp(disch:=omega) only[go_sem,ξ,ζ]
  refine caN (by exact kV) ?_;rintro v1 h1 s1 rfl
  try simp(disch:=omega) only[go_sem,ξ,ζ]
  all_goals rfl
 | true=>
  rw[hok] at kV
  have h6:=okB_six hok
  obtain⟨a,c,rfl,hl,k⟩:=hv.side
  refine Spec.go [(10,.x),(12,.x)] Tryz.func74 rfl rfl (by kernel_rfl) fun C _=>?_
  try simp(disch:=omega) only[go_sem,ξ,ζ]
  refine caN (by exact kV) ?_;rintro v1 h1 s1 rfl
  try simp(disch:=omega) only[go_sem,ξ,ζ]
  refine lpSl [(10,.x),(12,.x)] (fun x:Option (Nat×Nat×List Value)=>match x with |none=>⟨[(4,.v (.slice none 0 0)),(12,.v (.slice a l.length c)),(13,.v (.int .i64 l.length)),(14,.v (.int .i64 0))],[]⟩ |some x=>⟨[(4,.s 0 0 x.1 x.2.1),(12,.v (.slice a l.length c)),(13,.v (.int .i64 l.length)),(14,.v (.int .i64 x.1))],[x.2.2]⟩) (fun x h'=>Le h0 h'∧match x with |none=>True |some x=>1≤x.1∧x.1≤l.length∧x.1≤x.2.1∧x.2.1*4=x.2.2.length∧RowOf 4 (Qc h') x.2.2 ((l.take x.1).map cq)∧∀j x',j < x.1→l[j]?=some x'→decide (sz (midQ x'.2.set)≤2048)=true) (fun x=>match x with |none=>l.length |some x=>l.length - x.1) none [] ?_ ⟨inferInstance,trivial⟩ (by kernel_rfl) ?_
  ·try simp(disch:=omega) only[go_sem,ξ,ζ]
   all_goals rfl
  rintro(_ |⟨i,cap,row⟩) h2 ⟨le2,hr0⟩
  ·dsimp only
   by_cases hl:(0:Int) < (l.length:Int)
   ·obtain⟨x,hx⟩:∃x,l[0]?=some x:=⟨_,List.getElem?_eq_getElem (by omega)⟩
    obtain⟨ad,a1,m1,c1,a2,m2,c2,a3,m3,c3,a4,m4,c4,rfl,hat,r1,r2,hiv⟩:=k 0 x hx
    have gb:=okB_big hok hx
    have gv:=okB_void hok hx
    have kM:=IN (h0:=h2) (h:=h2) hiv.to
    unfold midO at kM
    rw[gb,cond_false,gv,cond_false] at kM
    try simp(disch:=omega) only[go_sem,ξ,ζ,hl,decide_true]
    refine Exists.intro [_,_,_,_,_,_,_,_,_] (And.intro rfl (And.intro (fun j v hj=>le2.sub.at (hat j v hj)) ?_))
    try simp(disch:=omega) only[go_sem,ξ,ζ]
    cases hs:decide (sz (midQ x.2.set)≤2048) with
    | false=>
     rw[hs,cond_false] at kM
     unfold Qo zRat at kM
     rw[show cenOk l=false from List.all_eq_false.2 ⟨x,List.mem_of_getElem? hx,by rw[hs];decide⟩]
     refine caN (by exact kM) ?_;rintro r h3 s3 r3;subst r3
     try simp(disch:=omega) only[go_sem,ξ,ζ]
     all_goals rfl
    | true=>
     rw[hs,cond_true] at kM
     refine caN (by exact kM) ?_;rintro r h3 s3 r3;obtain⟨u,rfl,c5⟩:=r3;obtain⟨m_0,m_1,m_2,m_3,m_4,m_5,m_6,rfl,c5⟩:=c5.sa
     try simp(disch:=omega) only[go_sem,ξ,ζ]
     refine apO (sz:=4) [0,1,2,3,4,5] 6 [7] rfl (by kernel_rfl) (by kernel_rfl) (by kernel_rfl) (by decide) (by kernel_rfl) (by kernel_rfl) ?_
     try simp(disch:=omega) only[go_sem,ξ,ζ,appN,Nat.reduceMul]
     intro cap junk hc hj
     have hR:RowOf 4 (Qc h3) ([.string x.1,.bool m_0,.slice m_1 m_2 m_3,.slice m_4 m_5 m_6] ++junk) ((l.take 1).map cq):=by
      rw[map_take hx]
      exact(RowOf.nil (sz:=4) (Q:=Qc h3) (row:=[])).app (cs:=[.string x.1,.bool m_0,.slice m_1 m_2 m_3,.slice m_4 m_5 m_6]) (s:=cq x) rfl ⟨_,rfl,rfl,c5⟩ junk
     have hA0:∀j x',j < 1→l[j]?=some x'→decide (sz (midQ x'.2.set)≤2048)=true:=fun j x' q hx'=>by
      obtain rfl:j=0:=by omega
      rw[hx] at hx';cases hx';exact hs
     dsimp only[lpS]
     refine⟨some (1,cap,[.string x.1,.bool m_0,.slice m_1 m_2 m_3,.slice m_4 m_5 m_6] ++junk),[3],?_,⟨inferInstance,η 1,by show 1≤l.length;omega,hc,by simp;omega,hR,fun j x' (q:j < 1) hx'=>hA0 j x' q hx'⟩,by show l.length - 1 < l.length;omega⟩
     try simp(disch:=omega) only[go_sem,ξ,ζ]
     all_goals rfl
   ·have e:l=[]:=List.length_eq_zero_iff.1 (by omega)
    rw[show cenOk l=true by rw[e];rfl]
    try simp(disch:=omega) only[go_sem,ξ,ζ,hl,decide_false]
    refine rn [] (by kernel_rfl) ?_
    try simp(disch:=omega) only[go_sem,ξ,ζ]
    subst e
    exact⟨_,rfl,_,_,rfl,fun i s hi=>by simp at hi⟩
  ·obtain⟨g1,g2,g3,g4,g5,g6⟩:=hr0
   dsimp only at g1 g2 g3 g4 g5 g6 ⊢
   by_cases hl:(i:Int) < (l.length:Int)
   ·obtain⟨x,hx⟩:∃x,l[i]?=some x:=⟨_,List.getElem?_eq_getElem (by omega)⟩
    obtain⟨ad,a1,m1,c1,a2,m2,c2,a3,m3,c3,a4,m4,c4,rfl,hat,r1,r2,hiv⟩:=k i x hx
    have gb:=okB_big hok hx
    have gv:=okB_void hok hx
    have kM:=IN (h0:=h2) (h:=h2) hiv.to
    unfold midO at kM
    rw[gb,cond_false,gv,cond_false] at kM
    try simp(disch:=omega) only[go_sem,ξ,ζ,hl,decide_true]
    refine Exists.intro [_,_,_,_,_,_,_,_,_] (And.intro rfl (And.intro (fun j v hj=>le2.sub.at (hat j v hj)) ?_))
    try simp(disch:=omega) only[go_sem,ξ,ζ]
    cases hs:decide (sz (midQ x.2.set)≤2048) with
    | false=>
     rw[hs,cond_false] at kM
     unfold Qo zRat at kM
     rw[show cenOk l=false from List.all_eq_false.2 ⟨x,List.mem_of_getElem? hx,by rw[hs];decide⟩]
     refine caN (by exact kM) ?_;rintro r h3 s3 r3;subst r3
     try simp(disch:=omega) only[go_sem,ξ,ζ]
     all_goals rfl
    | true=>
     rw[hs,cond_true] at kM
     refine caN (by exact kM) ?_;rintro r h3 s3 r3;obtain⟨u,rfl,c5⟩:=r3;obtain⟨m_0,m_1,m_2,m_3,m_4,m_5,m_6,rfl,c5⟩:=c5.sa
     try simp(disch:=omega) only[go_sem,ξ,ζ]
     refine apO (sz:=4) [0,1,2,3,4,5] 6 [7] rfl (by kernel_rfl) (by kernel_rfl) (by kernel_rfl) (by decide) (by kernel_rfl) (by kernel_rfl) ?_
     try simp(disch:=omega) only[go_sem,ξ,ζ,appN,Nat.reduceMul]
     intro cap' junk hc hj
     have hR:RowOf 4 (Qc h3) (row.take (i*4) ++[.string x.1,.bool m_0,.slice m_1 m_2 m_3,.slice m_4 m_5 m_6] ++junk) ((l.take (i+1)).map cq):=by
      rw[map_take hx]
      have:=(g5.mono fun cs s (q:Qc h2 cs s)=>(let ⟨ds,e1,e2,e3⟩:=q;⟨ds,e1,e2,e3.to⟩:Qc h3 cs s)).app (cs:=[.string x.1,.bool m_0,.slice m_1 m_2 m_3,.slice m_4 m_5 m_6]) (s:=cq x) rfl ⟨_,rfl,rfl,c5⟩ junk
      rw[List.length_map,List.length_take,Nat.min_eq_left (by omega)] at this
      exact this
     have hA:∀j x',j < i+1→l[j]?=some x'→decide (sz (midQ x'.2.set)≤2048)=true:=fun j x' q hx'=>by
      rcases qBj j i with g |g
      ·exact g6 j x' g hx'
      ·obtain rfl:j=i:=by omega
       rw[hx] at hx';cases hx';exact hs
     dsimp only[lpS]
     refine⟨some (i+1,cap',row.take (i*4) ++[.string x.1,.bool m_0,.slice m_1 m_2 m_3,.slice m_4 m_5 m_6] ++junk),[4],?_,⟨inferInstance,by show 1≤i+1;omega,by show i+1≤_;omega,hc,by simp;omega,hR,hA⟩,by show l.length - (i+1) < l.length - i;omega⟩
     try simp(disch:=omega) only[go_sem,ξ,ζ]
     all_goals rfl
   ·obtain rfl:i=l.length:=by omega
    rw[List.take_length] at g5
    rw[cenOk_yes g6]
    try simp(disch:=omega) only[go_sem,ξ,ζ,hl,decide_false]
    refine rn [(12,.t (.p 0 (.s [0,1,2] .d)))] (by kernel_rfl) ?_
    try simp(disch:=omega) only[go_sem,ξ,ζ]
    intro b h3 st3 hb
    try simp(disch:=omega) only[go_sem,ξ,ζ]
    have hb:=hb (fun e=>by rw[e] at g4;simp at g4;omega)
    have:=Pcx.of (c:=cap) hb (g5.mono fun cs s (q:Qc h2 cs s)=>(let ⟨ds,e1,e2,e3⟩:=q;⟨ds,e1,e2,e3.to⟩:Qc h3 cs s))
    rw[List.length_map] at this
    exact⟨_,rfl,this⟩
open Go.Proofs Go.RowKit
attribute [local go_sem] Oper.semAt_some
structure CoF (w:World) (h0:PH) (B:Nat) (cs:List Value) (T:TypeId) (R:List (Nat×Array Value×TypeId)) (l:List NS) (hp:PH) (v:Value) (W:World):Prop where
 sub:Sub h0 hp
 has:Has W hp
 new:New w.heap.size h0 hp
 box:W.heap[B]?=some (.cells (cs ++[v]).toArray T (0,0))
 lo:w.heap.size≤B
 row:∃xs,W.ownsRow w.heap.size 35 8 v l.length xs∧RowOf 8 (Qv hp) xs l
 off:∀g,v.ownBlock=some g→hp g=none
 boff:hp B=none
 ne:v.ownBlock≠some B
 below:Below w.heap.size w W
 rest:∀x∈R,W.heap[x.1]?=some (.cells x.2.1 x.2.2 (0,0))∧hp x.1=none∧x.1≠B∧v.ownBlock≠some x.1∧w.heap.size≤x.1
section
variable {w:World} {h0:PH} {B:Nat} {cs:List Value} {T:TypeId} {R:List (Nat×Array Value×TypeId)} {l:List NS} {hp:PH} {v:Value} {W:World}
theorem CoF.up (c:CoF w h0 B cs T R l hp v W) {h':PH} {W':World} (hs:Sub hp h') (hh:Has W' h') (hb:Below W.heap.size W W') (hn:New W.heap.size hp h'):CoF w h0 B cs T R l h' v W':=by
 obtain⟨xs,h1,h2⟩:=c.row
 have off:∀k,k < W.heap.size→hp k=none→h' k=none:=fun k hk e=>by
  cases e2:h' k with
  |none=>rfl
  | some cs=>
   rcases hn k (by rw[e2];simp) with g |g
   ·exact absurd e g
   ·omega
 have hB:=(Array.getElem?_eq_some_iff.1 c.box).1
 refine⟨c.sub.trans hs,hh,fun k hk=>?_,(hb.block B hB).trans c.box,c.lo,⟨xs,?_,h2.mono fun cs s q=>qv_up _ _ hs cs s q⟩,fun g e=>off g ?_ (c.off g e),off B hB c.boff,c.ne,c.below.trans (hb.mono c.below.size),fun x hx=>?_⟩
 ·rcases hn k hk with g |g
  ·exact c.new k g
  ·exact .inr (χ c.below.size g)
 ·refine⟨h1.1,?_⟩
  rcases h1.2 with hn |⟨g,cap,cur,rfl,hb0,hgg,rest⟩
  ·exact .inl hn
  ·exact .inr ⟨g,cap,cur,rfl,hb0,(hb.block g (Array.getElem?_eq_some_iff.1 hgg).1).trans hgg,rest⟩
 ·rcases h1.2 with⟨rfl,_⟩ |⟨g',cap,cur,rfl,_,hgb,_⟩
  ·simp[Value.ownBlock] at e
  ·obtain rfl:g'=g:=by simpa[Value.ownBlock] using e
   exact(Array.getElem?_eq_some_iff.1 hgb).1
 ·obtain⟨k1,k2,k3⟩:=c.rest x hx
  have hlt:=(Array.getElem?_eq_some_iff.1 k1).1
  exact⟨(hb.block x.1 hlt).trans k1,off x.1 hlt k2,k3⟩
theorem CoF.alloc (c:CoF w h0 B cs T R l hp v W) (o:Obj):CoF w h0 B cs T R l hp v (W.alloc o):=
 have hb:Below W.heap.size W (W.alloc o):=(Below.refl _ W).alloc (η _) _
 c.up (Sub.refl _) (c.has.below hb) hb (fun _ h=>.inl h)
theorem set_last {W:World} {B:Nat} {cs:List Value} {v:Value} {T:TypeId} (h:W.heap[B]?=some (.cells (cs ++[v]).toArray T (0,0))) (v':Value):(W.setCell ⟨B,cs.length,none⟩ v').heap[B]?=some (.cells (cs ++[v']).toArray T (0,0)):=by
 show(W.heap.modify B _)[B]?=_
 rw[Array.getElem?_modify,if_pos rfl,h]
 simp
theorem CoF.app (c:CoF w h0 B cs T R l hp v W) {tmp:Obj} {w1:World} {v':Value} {xs vs:List Value} {s:NS} (hx:W.ownsRow w.heap.size 35 8 v l.length xs) (hR:RowOf 8 (Qv hp) xs l)
  (hvs:vs.length=8) (q:Qv hp vs s) (hown:w1.ownsRow w.heap.size 35 8 v' (l.length+1) (xs ++vs)) (hg:(W.alloc tmp).grownBy w1 v.ownBlock) (hat:v'.ownBlock=v.ownBlock∨v'.ownBlock=some (W.alloc tmp).heap.size):
  w1.heap[B]?=some (.cells (cs ++[v]).toArray T (0,0))∧CoF w h0 B cs T R (l ++[s]) hp v' (w1.setCell ⟨B,cs.length,none⟩ v'):=by
 have hB:=(Array.getElem?_eq_some_iff.1 c.box).1
 have k1:w1.heap[B]?=some (.cells (cs ++[v]).toArray T (0,0)):=(hg.block B (by simp;omega) (fun e=>c.ne e.symm)).trans ((Below.heap_alloc W tmp B hB).trans c.box)
 have hne:v'.ownBlock≠some B:=by
  rcases hat with ha |ha
  ·rw[ha];exact c.ne
  ·rw[ha];intro e;have:=Option.some.inj e;simp at this;omega
 have hh1:Has w1 hp:=(c.has.kept (World.grownBy_alloc W tmp none) (fun r e=>by cases e)).kept hg fun r e=>c.off r e
 have hlt:∀g,v'.ownBlock=some g→hp g=none:=fun g e=>by
  rcases hat with ha |ha
  ·exact c.off g (by rw[←ha];exact e)
  ·cases ex:hp g with
   |none=>rfl
   | some cs'=>
    have h1:=c.has.lt ex
    rw[ha] at e
    have e:=Option.some.inj e
    simp at e
    omega
 have hb1:Below w.heap.size w w1:=(c.below.alloc c.below.size tmp).grown hg (c.below.alloc c.below.size tmp).size fun k e=>by
  obtain⟨_,h3,_⟩:=c.row
  rcases h3.2 with⟨rfl,_⟩ |⟨g,cap,cur,rfl,hb0,_⟩
  ·simp[Value.ownBlock] at e
  ·obtain rfl:g=k:=by simpa[Value.ownBlock] using e
   exact hb0
 refine⟨k1,⟨c.sub,hh1.kept (grown_setN w1 B _ v') (fun r e=>by cases e;exact c.boff),c.new,set_last k1 v',c.lo,⟨xs ++vs,?_,?_⟩,hlt,c.boff,hne,hb1.grown (grown_setN w1 B _ v') hb1.size (fun k e=>by cases e;exact c.lo),fun x hx=>?_⟩⟩
 ·simpa using hown.kept (grown_setN w1 B cs.length v') (.inr hne)
 ·have:=hR.app hvs q []
  rwa[List.append_nil,qAr (by rw[hx.1];exact η _)] at this
 ·obtain⟨r1,r2,r3,r4,r5⟩:=c.rest x hx
  have hl1:=(Array.getElem?_eq_some_iff.1 r1).1
  refine⟨?_,r2,r3,fun e=>?_,r5⟩
  ·rw[Below.heap_setCell _ _ _ _ r3,hg.block x.1 (by simp;omega) (fun e=>r4 e.symm),Below.heap_alloc _ _ _ hl1];exact r1
  ·rcases hat with ha |ha
   ·exact r4 (by rw[←ha];exact e)
   ·rw[ha] at e
    have e:=Option.some.inj e
    simp at e
    omega
theorem CoF.fin (c:CoF w h0 B cs T R l hp v W) (hl:l.length≤6):∃hf,Has W hf∧Sub h0 hf∧Sub hp hf∧New w.heap.size h0 hf∧Dsv hf v l∧∀k,hp k=none→v.ownBlock≠some k→hf k=none:=by
 obtain⟨xs,h1,h2⟩:=c.row
 rcases h1.2 with⟨rfl,e0⟩ |⟨g,cap,cur,rfl,hb,hgb,_,_,hs,ht⟩
 ·exact⟨hp,c.has,c.sub,Sub.refl _,c.new,by rw[←e0];exact Dsv.of (by omega) (fun i s hi=>by
   have:=(List.getElem?_eq_some_iff.1 hi).1
   omega),fun k hk _=>hk⟩
 ·have hgn:=c.off g rfl
  have hsub:Sub hp (fun k=>if k=g then some cur else hp k):=fun k cs hx=>by
   show(if k=g then some cur else hp k)=some cs
   rw[if_neg (fun e=>by rw[e,hgn] at hx;cases hx)];exact hx
  refine⟨fun k=>if k=g then some cur else hp k,fun k cs hx=>?_,c.sub.trans hsub,hsub,fun k hx=>?_,Dsv.of (by omega) fun i s hi=>⟨_,_,rfl,qv_up _ _ hsub _ _ (h2.2 i s hi),fun j u hj=>?_⟩,fun k hk hne=>by
   show(if k=g then some cur else hp k)=none
   rw[if_neg (fun e=>hne (by rw[e];rfl))];exact hk⟩
  ·have hx:(if k=g then some cur else hp k)=some cs:=hx
   by_cases e:k=g
   ·rw[if_pos e] at hx;cases hx;exact⟨_,_,e▸hgb⟩
   ·rw[if_neg e] at hx;exact c.has _ _ hx
  ·have hx:(if k=g then some cur else hp k)≠none:=hx
   by_cases e:k=g
   ·exact .inr (e▸hb)
   ·rw[if_neg e] at hx;exact c.new k hx
  ·rw[at_off (cs:=cur) (by show(if g=g then some cur else hp g)=_;rw[if_pos rfl])]
   rw[←ht] at hj
   rw[List.getElem?_take] at hj
   split at hj
   ·rw[List.getElem?_drop,List.getElem?_take] at hj
    split at hj
    ·simpa using hj
    ·cases hj
   ·cases hj
end
def FrR (h:PH) (r v:Value) (p:Int) (l:List Sd1):Prop:=match cenOk l with
 |false=>r=.tuple #[.agg #[.slice none 0 0,.int .i64 0,.slice none 0 0,.slice none 0 0],.int .i64 1]
 | true=>match kidsO (dcA p l) l.length with
  |.error e=>r=.tuple #[.agg #[.slice none 0 0,.int .i64 0,.slice none 0 0,.slice none 0 0],.int .i64 e]
  |.ok ds=>∃ca cm cc dv,r=.tuple #[.agg #[v,.int .i64 p,.slice ca cm cc,dv],.int .i64 0]∧Dsv h dv ds
theorem Framed_spec {h0 h:PH} [l0:Le h0 h] {v:Value} {l:List Sd1} {p:Int} (hv:Boxv h0 v l) (hok:okB l=true) (gp:bad p=false):Spec mach 38 #[v,.int .i64 p] h (fun r h'=>FrR h' r v p l) NP:=by
 refine⟨by kernel_rfl,fun w hw hg=>?_⟩
 refine(callsIn_wide (n:=8)).1 ?_
 show CallsIn Fence.wide 8 Tryz.prog _ _ w _
 have fn1:Fence.wide.fn 74:=trivial
 have fn2:Fence.wide.fn 75:=trivial
 have fn3:Fence.wide.fn 76:=trivial
 have htk:tk mach.P 82=some (some 4):=by kernel_rfl
 have kC:=RCenter_spec (h:=h) hv
 have h6:l.length≤6:=okB_six hok
 obtain⟨va,vc,rfl,hlen,hk⟩:=hv.side
 unfold CenR at kC
 rw[hok] at kC
 unfold CenV at kC
 unfold FrR
 have hN0:=World.alloc_heap_new w (.cells #[.slice none 0 0,.int .i64 0,.slice none 0 0,.slice none 0 0] 82)
 have hbN:Below w.heap.size w (w.alloc (.cells #[.slice none 0 0,.int .i64 0,.slice none 0 0,.slice none 0 0] 82)):=(Below.refl _ w).alloc (η _) _
 refine callsIn_of_wp Tryz.func38 rfl trivial ?_ rfl
 simp only[Tryz.ntmps38,List.size_toArray,List.length_cons,List.length_nil,ζ,Nat.reduceSub,Array.replicate_succ,Array.replicate_zero,List.push_toArray,List.append_toArray,List.nil_append,List.cons_append]
 cases hce:cenOk l with
 | false=>
  rw[hce] at kC
  gi_wp2_with (first |(gi_at_call 74;refine(callsIn_wide.2 (kC.run _ (hw.below hbN) hg)).mono ?_;rintro e W2 hP;obtain⟨_,hm,rfl,q1,q2,q3,q4,rfl⟩:=post_ret hP;have hN2:=(q1.block _ (by simp)).trans hN0) |(with_reducible refine at_store (T:=82) ?_;refine Hid.out ?_))
  have hmN:hm w.heap.size=none:=priv_of_new hw q4 w.heap.size (η _) (by simp)
  refine Hid.mk ?_
  refine wpListIn_store_box (M:=mach) rfl w.heap.size 0 [.slice none 0 0,.int .i64 0,.slice none 0 0,.slice none 0 0] #[.slice none 0 0,.int .i64 0,.slice none 0 0,.slice none 0 0] rfl rfl rfl rfl htk rfl rfl hN2 (by simp) ?_
  intro W9 hN9 hg9
  have hN9:W9.heap[w.heap.size]?=some (.cells #[.slice none 0 0,.int .i64 0,.slice none 0 0,.slice none 0 0] 82 (0,0)):=hN9
  have n0:=bx_cell hN9 0
  have n1:=bx_cell hN9 1
  have n2:=bx_cell hN9 2
  have n3:=bx_cell hN9 3
  simp only[List.getElem?_toArray,List.getElem?_cons_zero,List.getElem?_cons_succ] at n0 n1 n2 n3
  gi_wp2
  refine bodyPost_ret (v:=.tuple #[.agg #[.slice none 0 0,.int .i64 0,.slice none 0 0,.slice none 0 0],.int .i64 1]) ((results_cell_tmp (p:=4) (ty:=82) (u:=5) rfl _ _ _).trans ?_) rfl ?_
  ·go_simp
  exact⟨_,(hbN.trans (q1.mono hbN.size)).grown hg9 (hbN.trans (q1.mono hbN.size)).size (fun k e=>by cases e;omega),(q2).kept hg9 (fun r e=>by cases e;exact hmN),q3,fun k hk=>(q4 k hk).imp_right fun g=>χ hbN.size g,rfl⟩
 | true=>
  rw[hce] at kC
  dsimp only
  gi_wp2_with (gi_at_call 74;refine(callsIn_wide.2 (kC.run _ (hw.below hbN) hg)).mono ?_;rintro e W2 hP;obtain⟨_,hm,rfl,q1,q2,q3,q4,u,rfl,hcp⟩:=post_ret hP;have hN2:=(q1.block _ (by simp)).trans hN0;obtain⟨ca,cc,rfl,hcp⟩:=hcp)
  have hmN:hm w.heap.size=none:=priv_of_new hw q4 w.heap.size (η _) (by simp)
  have hs2:=q1.size
  simp only[World.size_alloc] at hs2
  have hb2:=hbN.trans (q1.mono hbN.size)
  have hmF:hm W2.heap.size=none:=by
   cases ex:hm W2.heap.size with
   |none=>rfl
   |some cs=>have:=q2.lt ex;omega
  have c0:CoF w h W2.heap.size [.slice va l.length vc,.int .i64 p,.slice ca l.length cc] 82 [(w.heap.size,#[.slice none 0 0,.int .i64 0,.slice none 0 0,.slice none 0 0],82)] [] hm (.slice none 0 0) (W2.alloc (.cells #[.slice va l.length vc,.int .i64 p,.slice ca l.length cc,.slice none 0 0] 82)):=by
   refine⟨q3,q2.kept (World.grownBy_alloc W2 _ none) (fun r e=>by cases e),fun k hk=>(q4 k hk).imp_right fun g=>χ hbN.size g,World.alloc_heap_new W2 _,by omega,⟨[],World.ownsRow_nil _ _ _ _,RowOf.nil⟩,fun g e=>by simp[Value.ownBlock] at e,hmF,by simp[Value.ownBlock],hb2.alloc (by omega) _,fun x hx=>?_⟩
   obtain rfl:=qBc.1 hx
   exact⟨(Below.heap_alloc _ _ _ (by omega)).trans hN2,hmN,by show w.heap.size≠_;omega,by simp[Value.ownBlock],η _⟩
  generalize W2.alloc (.cells #[.slice va l.length vc,.int .i64 p,.slice ca l.length cc,.slice none 0 0] 82)=W3 at c0 ⊢
  generalize W2.heap.size=Fb at c0 hs2 ⊢
  clear q1 q2 q3 q4 hN2 hb2 hmN hmF
  gi_loopw [29] (fun q W=>∃(I:Int) (i:Nat),(i:Int)=I∧i≤l.length∧q=.int .i64 I∧∃hp u zs,kidsO (dcA p l) i=.ok zs∧Sub hm hp∧CoF w h Fb [.slice va l.length vc,.int .i64 p,.slice ca l.length cc] 82 [(w.heap.size,#[.slice none 0 0,.int .i64 0,.slice none 0 0,.slice none 0 0],82)] zs hp u W) (fun q _=>l.length - (RowKit.intOf q).toNat)
  case atStart=>exact⟨0,0,rfl,qBh _,rfl,hm,_,[],rfl,Sub.refl _,c0⟩
  case round=>
   obtain⟨I,i,eI,hi1,rfl,hp,u,zs,hz,hsm,c⟩:=hrel
   have hI1:0≤I:=by omega
   have eI2:I.toNat=i:=by omega
   have hzl:=kidsO_len hz
   by_cases h2:I < l.length
   ·obtain⟨s,hs⟩:∃s,l[i]?=some s:=⟨_,List.getElem?_eq_getElem (by omega)⟩
    obtain⟨ad,y1,y2,y3,y4,y5,y6,y7,y8,y9,z1,z2,z3,rfl,hkat,_,_,hiv⟩:=hk i s hs
    obtain⟨kb,ko,rfl⟩:∃b o,ad=⟨b,o,none⟩:=by
     obtain⟨s0,hs0⟩:∃s,l[0]?=some s:=⟨_,List.getElem?_eq_getElem (by omega)⟩
     obtain⟨ad',_,_,_,_,_,_,_,_,_,_,_,_,e,hat,_⟩:=hk 0 s0 hs0
     cases e
     have:=hat 0 _ rfl
     rw[Nat.zero_mul,adr0,adr0] at this
     exact⟨_,_,at_spot this⟩
    have hk3:∀(t:Nat) u,([.string s.1,.bool s.2.n1,.slice y1 y2 y3,.slice y4 y5 y6,.bool s.2.n2,.slice y7 y8 y9,.slice z1 z2 z3,.bool s.2.l,.bool s.2.u]:List Value)[t]?=some u→wr.cell? ⟨kb,ko+i*9+t,none⟩=some u:=fun t u hu=>by
     have:=hkat t u hu
     rw[adrN,adrN] at this
     exact c.has.cell (c.sub.at (l0.sub.at this))
    have x0:wr.cell? ⟨kb,ko+i*9,none⟩=_:=hk3 0 _ rfl
    have x1:=hk3 1 _ rfl
    have x2:=hk3 2 _ rfl
    have x3:=hk3 3 _ rfl
    have x4:=hk3 4 _ rfl
    have x5:=hk3 5 _ rfl
    have x6:=hk3 6 _ rfl
    have x7:=hk3 7 _ rfl
    have x8:=hk3 8 _ rfl
    clear hk3 hkat
    have hsq:sz (midQ s.2.set)≤2048:=of_decide_eq_true (qBd.1 hce s (List.mem_of_getElem? hs))
    obtain⟨ad,cs,rfl,⟨ds,rfl,hdl,hcn⟩,hat⟩:=hcp i (cq s) (by rw[List.getElem?_map,hs];rfl)
    obtain⟨cb,co,rfl⟩:∃cb co,ad=⟨cb,co,none⟩:=by
     obtain⟨s0,hs0⟩:∃s,l[0]?=some s:=⟨_,List.getElem?_eq_getElem (by omega)⟩
     obtain⟨ad',cs',e,⟨ds',rfl,_⟩,hat'⟩:=hcp 0 (cq s0) (by rw[List.getElem?_map,hs0];rfl)
     cases e
     have:=hat' 0 _ rfl
     rw[Nat.zero_mul,adr0,adr0] at this
     exact⟨_,_,at_spot this⟩
    obtain⟨m0,q1,q2,q3,q4,q5,q6,hde,hcn⟩:=hcn.sa
    have hde:ds=[.bool m0,.slice q1 q2 q3,.slice q4 q5 q6]:=by simpa using hde
    subst hde
    haveI:Le hm hp:=⟨hsm⟩
    haveI:Le h0 hp:=⟨fun k cs hx=>c.sub _ _ (l0.sub _ _ hx)⟩
    have hcc:∀(j:Nat) u,([.string (cq s).1,.bool m0,.slice q1 q2 q3,.slice q4 q5 q6]:List Value)[j]?=some u→∀o,(wr.alloc o).cell? ⟨cb,co+i*4+j,none⟩=some u:=fun j u hu o=>by
     have:=hat j u hu
     rw[adrN,adrN] at this
     exact(c.alloc o).has.cell (hsm.at this)
    have p1:∀o,(wr.alloc o).cell? ⟨cb,co+i*4+1,none⟩=some (.bool m0):=hcc 1 _ rfl
    have p2:∀o,(wr.alloc o).cell? ⟨cb,co+i*4+1+1,none⟩=some (.slice q1 q2 q3):=hcc 2 _ rfl
    have p3:∀o,(wr.alloc o).cell? ⟨cb,co+i*4+1+2,none⟩=some (.slice q4 q5 q6):=hcc 3 _ rfl
    clear hcc
    have kP:Spec mach 75 #[.agg #[.bool m0,.slice q1 q2 q3,.slice q4 q5 q6]] hp (fun r h'=>Ir h' r (ptE (rqX (midQ s.2.set)))) NP:=RefPoint (h0:=hp) (h:=hp) ((hcn.to (h':=hp)).rw (χ hsq (by decide)))
    rw[ptE_rqX hsq] at kP
    have dq:dcA p l i=subE p s.2 (ptR (rqX (midQ s.2.set))).set.ri:=by unfold dcA dsE;rw[hs];dsimp only;rw[ptE_rqX hsq]
    have kS:=fun {h4:PH} [Le h0 h4] {b1 b2 e1 e2:Bool} {a1 a2 a3 a4:Option Addr} {m1 k1 m2 k2 m3 k3 m4 k4:Nat} (hc:Cv h4 (.agg #[.bool b1,.slice a1 m1 k1,.slice a2 m2 k2,.bool b2,.slice a3 m3 k3,.slice a4 m4 k4,.bool e1,.bool e2]) (ptR (rqX (midQ s.2.set))).set)=>(by rw[dq];exact RefSub (h0:=h4) (h:=h4) (p:=p) (hiv.to (h':=h4)) (hc.iv (fin_le (ptE_rqX hsq))):Spec mach 76 #[.agg #[.bool s.2.n1,.slice y1 y2 y3,.slice y4 y5 y6,.bool s.2.n2,.slice y7 y8 y9,.slice z1 z2 z3,.bool s.2.l,.bool s.2.u],.agg #[.bool b1,.slice a1 m1 k1,.slice a2 m2 k2,.bool b2,.slice a3 m3 k3,.slice a4 m4 k4,.bool e1,.bool e2],.int .i64 p] h4 (fun r h'=>Ir h' r (dcA p l i)) NP)
    cases hE:dcA p l i with
    | error e'=>
     obtain rfl:=dcA_err gp hE
     rw[hE] at kS
     unfold Ir zIv at kS
     have hkE:kidsO (dcA p l) l.length=.error 1:=by have:=kidsO_err (kidsO_next hz hE) (l.length - (i+1));rwa[show i+1+(l.length - (i+1))=l.length by omega] at this
     gi_wp2_with (first |(gi_at_call 75;refine(callsIn_wide.2 (kP.run _ (c.alloc _).has (hg.trans c.sub))).mono ?_;rintro e W4 hP;obtain⟨_,h4,rfl,t1,t2,t3,t4,u4,rfl,hc4⟩:=post_ret hP;have c4:=(c.alloc _).up t3 t2 t1 t4;obtain⟨v1,v2,v3,v4,v5,v6,v7,v8,v9,v10,v11,v12,v13,v14,v15,v16,rfl,hc4⟩:=hc4.sa;haveI:Le h0 h4:=⟨fun k cs hx=>t3 _ _ (c.sub _ _ (l0.sub _ _ hx))⟩;have hbx:=fun o=>(Below.heap_alloc W4 o _ (Nat.lt_of_lt_of_le (by simp) t1.size)).trans ((t1.block wr.heap.size (by simp)).trans (World.alloc_heap_new wr _));have d1:=fun o=>bx_cell (hbx o) 1;have d2:=fun o=>bx_cell (hbx o) 2;have d3:=fun o=>bx_cell (hbx o) 3;have d4:=fun o=>bx_cell (hbx o) 4;have d5:=fun o=>bx_cell (hbx o) 5;have d6:=fun o=>bx_cell (hbx o) 6;have d7:=fun o=>bx_cell (hbx o) 7;have d8:=fun o=>bx_cell (hbx o) 8;simp only[List.getElem?_toArray,List.getElem?_cons_zero,List.getElem?_cons_succ] at d1 d2 d3 d4 d5 d6 d7 d8;have kS4:=kS hc4) |(gi_at_call 76;refine(callsIn_wide.2 (kS4.run _ (c4.alloc _).has (hg.trans c4.sub))).mono ?_;rintro e W5 hP;obtain⟨_,h5,rfl,r1,r2,r3,r4,rfl⟩:=post_ret hP;have c5:=(c4.alloc _).up r3 r2 r1 r4;have c6:=c5.alloc (.cells #[.bool false,.slice none 0 0,.slice none 0 0,.bool false,.slice none 0 0,.slice none 0 0,.bool false,.bool false] 35);have hN5:=(c6.rest _ (qAt ..)).1) |(with_reducible refine at_store (T:=82) ?_;refine Hid.out ?_))
     ·skip
      refine Hid.mk ?_
      refine wpListIn_store_box (M:=mach) rfl w.heap.size 0 [.slice none 0 0,.int .i64 0,.slice none 0 0,.slice none 0 0] #[.slice none 0 0,.int .i64 0,.slice none 0 0,.slice none 0 0] rfl rfl rfl rfl htk rfl rfl hN5 (by simp) ?_
      intro W9 hN9 hg9
      have hN9:W9.heap[w.heap.size]?=some (.cells #[.slice none 0 0,.int .i64 0,.slice none 0 0,.slice none 0 0] 82 (0,0)):=hN9
      have n0:=bx_cell hN9 0
      have n1:=bx_cell hN9 1
      have n2:=bx_cell hN9 2
      have n3:=bx_cell hN9 3
      simp only[List.getElem?_toArray,List.getElem?_cons_zero,List.getElem?_cons_succ] at n0 n1 n2 n3
      gi_wp2
      refine bodyPost_ret (v:=.tuple #[.agg #[.slice none 0 0,.int .i64 0,.slice none 0 0,.slice none 0 0],.int .i64 1]) ((results_cell_tmp (p:=4) (ty:=82) (u:=5) rfl _ _ _).trans ?_) rfl ?_
      ·go_simp
      exact⟨_,c6.below.grown hg9 c6.below.size (fun k e=>by cases e;omega),c6.has.kept hg9 (fun r e=>by cases e;exact(c6.rest _ (qAt ..)).2.1),c6.sub,c6.new,rfl⟩
    | ok z=>
     rw[hE] at kS
     obtain⟨e0',i0,z0,hU,hi0,hz0,hz1,hz2,_,hy1,hy2⟩:=mkN_some (P:=Tryz.prog) (T:=80) (sz:=8) (by kernel_rfl)
     obtain rfl:e0'=35:=by have:=hU.symm.trans Tryz.underlying80;simpa using this
     have hlz:zs.length≤6:=by omega
     have hzl2:z.le 2048:=fin2_le (dq.symm.trans hE)
     gi_wp2_with (first |(gi_at_call 75;refine(callsIn_wide.2 (kP.run _ (c.alloc _).has (hg.trans c.sub))).mono ?_;rintro e W4 hP;obtain⟨_,h4,rfl,t1,t2,t3,t4,u4,rfl,hc4⟩:=post_ret hP;have c4:=(c.alloc _).up t3 t2 t1 t4;obtain⟨v1,v2,v3,v4,v5,v6,v7,v8,v9,v10,v11,v12,v13,v14,v15,v16,rfl,hc4⟩:=hc4.sa;haveI:Le h0 h4:=⟨fun k cs hx=>t3 _ _ (c.sub _ _ (l0.sub _ _ hx))⟩;have hbx:=fun o=>(Below.heap_alloc W4 o _ (Nat.lt_of_lt_of_le (by simp) t1.size)).trans ((t1.block wr.heap.size (by simp)).trans (World.alloc_heap_new wr _));have d1:=fun o=>bx_cell (hbx o) 1;have d2:=fun o=>bx_cell (hbx o) 2;have d3:=fun o=>bx_cell (hbx o) 3;have d4:=fun o=>bx_cell (hbx o) 4;have d5:=fun o=>bx_cell (hbx o) 5;have d6:=fun o=>bx_cell (hbx o) 6;have d7:=fun o=>bx_cell (hbx o) 7;have d8:=fun o=>bx_cell (hbx o) 8;simp only[List.getElem?_toArray,List.getElem?_cons_zero,List.getElem?_cons_succ] at d1 d2 d3 d4 d5 d6 d7 d8;have kS4:=kS hc4) |(gi_at_call 76;refine(callsIn_wide.2 (kS4.run _ (c4.alloc _).has (hg.trans c4.sub))).mono ?_;rintro e W5 hP;obtain⟨_,h5,rfl,r1,r2,r3,r4,u5,rfl,hc5⟩:=post_ret hP;have c5:=(c4.alloc _).up r3 r2 r1 r4;obtain⟨g1,g2,g3,g4,g5,g6,g7,g8,g9,g10,g11,g12,g13,g14,g15,g16,rfl,hc5⟩:=hc5.sa;have hb6:=fun o=>(c5.alloc o).box;have b3:=fun o=>bx_cell (hb6 o) 3;simp only[List.cons_append,List.nil_append,List.getElem?_toArray,List.getElem?_cons_zero,List.getElem?_cons_succ] at b3;obtain⟨xs,hx,hR⟩:=(c5.alloc (.cells #[.bool g1,.slice g2 g3 g4,.slice g5 g6 g7,.bool g8,.slice g9 g10 g11,.slice g12 g13 g14,.bool g15,.bool g16] 35)).row) |(gi_at_builtin;refine wpListIn_append_own_at _ rfl _ _ 80 rfl w.heap.size 35 i0 z0 8 i0.bytes hU hi0 hz0 hz1 rfl hz2 (by decide) u _ xs rfl (hx.alloc _) ⟨W5.heap.size+1,0,none⟩ 1 1 [.bool g1,.slice g2 g3 g4,.slice g5 g6 g7,.bool g8,.slice g9 g10 g11,.slice g12 g13 g14,.bool g15,.bool g16] rfl rfl ?_ (by simp[Value.oneCell']) (by unfold maxLen;omega) ?_ ?_ ?_))
     ·exact new_cells (by simp) #[.bool g1,.slice g2 g3 g4,.slice g5 g6 g7,.bool g8,.slice g9 g10 g11,.slice g12 g13 g14,.bool g15,.bool g16] _
     ·exact χ (qAk (Nat.succ_le_succ hlz) hy2) (by decide)
     ·have:=c5.below.size
      simp;omega
     ·intro v' w1 hown hgrow _ hat
      obtain⟨g',cap',e'⟩:=ownsRow_succ hown
      obtain⟨k1,k2⟩:=(c5.alloc (.cells #[.bool g1,.slice g2 g3 g4,.slice g5 g6 g7,.bool g8,.slice g9 g10 g11,.slice g12 g13 g14,.bool g15,.bool g16] 35)).app (s:=z) (vs:=[.bool g1,.slice g2 g3 g4,.slice g5 g6 g7,.bool g8,.slice g9 g10 g11,.slice g12 g13 g14,.bool g15,.bool g16]) hx hR rfl ⟨⟨_,_,_,_,_,_,_,_,_,_,_,_,_,_,_,_,rfl⟩,hc5,hzl2⟩ (by rw[hzl];simpa[hzl] using hown) hgrow (by simpa using hat)
      have w3:=bx_cell k1 3
      simp only[List.cons_append,List.nil_append,List.getElem?_toArray,List.getElem?_cons_zero,List.getElem?_cons_succ] at w3
      have w4:w1.frozen? ⟨Fb,3,none⟩=false:=by simp[World.frozen?,k1]
      have hz':=kidsO_ok hz hE
      subst e'
      gi_wp2
      go_roundw
      case rel=>exact⟨_,i+1,by omega,by omega,rfl,h5,_,_,hz',hsm.trans (t3.trans r3),k2⟩
      case measure=>simp[RowKit.intOf];omega
   ·obtain rfl:i=l.length:=by omega
    have hB:=c.box
    have b0:=bx_cell hB 0
    have b1:=bx_cell hB 1
    have b2:=bx_cell hB 2
    have b3:=bx_cell hB 3
    simp only[List.cons_append,List.nil_append,List.getElem?_toArray,List.getElem?_cons_zero,List.getElem?_cons_succ] at b0 b1 b2 b3
    have hN5:=(c.rest _ (qAt ..)).1
    obtain⟨ua,un,uc,rfl⟩:∃a n c,u=.slice a n c:=by
     obtain⟨xs,h1,_⟩:=c.row
     rcases h1.2 with⟨rfl,_⟩ |⟨g,cap,cur,rfl,_⟩
     ·exact⟨_,_,_,rfl⟩
     ·exact⟨_,_,_,rfl⟩
    gi_wp2_with (with_reducible refine at_store (T:=82) ?_;refine Hid.out ?_)
    refine Hid.mk ?_
    refine wpListIn_store_box (M:=mach) rfl w.heap.size 0 [.slice va l.length vc,.int .i64 p,.slice ca l.length cc,.slice ua un uc] #[.slice none 0 0,.int .i64 0,.slice none 0 0,.slice none 0 0] rfl rfl rfl rfl htk rfl rfl hN5 (by simp) ?_
    intro W9 hN9 hg9
    have hN9:W9.heap[w.heap.size]?=some (.cells #[.slice va l.length vc,.int .i64 p,.slice ca l.length cc,.slice ua un uc] 82 (0,0)):=hN9
    have n0:=bx_cell hN9 0
    have n1:=bx_cell hN9 1
    have n2:=bx_cell hN9 2
    have n3:=bx_cell hN9 3
    simp only[List.getElem?_toArray,List.getElem?_cons_zero,List.getElem?_cons_succ] at n0 n1 n2 n3
    gi_wp2
    refine bodyPost_ret (v:=.tuple #[.agg #[.slice va l.length vc,.int .i64 p,.slice ca l.length cc,.slice ua un uc],.int .i64 0]) ((results_cell_tmp (p:=4) (ty:=82) (u:=5) rfl _ _ _).trans ?_) rfl ?_
    ·go_simp
    obtain⟨hf,f1,f2,f3,f4,f5,f6⟩:=c.fin (by omega)
    obtain⟨_,j1,_,j2,_⟩:=c.rest _ (qAt ..)
    have hfN:=f6 _ j1 j2
    exact⟨hf,c.below.grown hg9 c.below.size (fun k e=>by cases e;omega),f1.kept hg9 (fun r e=>by cases e;exact hfN),f2,f4,⟨_,_,_,_,rfl,f5⟩⟩
end Go.Q
