/-
  Contracts of package interval, said of plain intervals (NS), and what stands on it. Conditions: each theorem's own.
-/
import Derived.Test.YtgmcchhklbeckaaGreatDoorK3550acPkG
import Derived.Test.YtgmcchhklbeckaaGreatDoorK7c64e3PkL
import Derived.Test.YtgmcchhklbeckaaGreatDoorCards
import Derived.Test.YtgmcchhklbeckaaGreatDoorTie
import Derived.WalkKit
import Derived.ProofKit
import Derived.OpenShut
import Derived.Deep.DeepHandedRow
import Derived.Lib.LaidTab
import Derived.Test.YtgmcchhklbeckaaGreatDoorKa16a35PkD
import Derived.Defers
import Derived.Recover
set_option linter.unusedVariables false
set_option linter.unusedSimpArgs false
open Nat renaming reduceBEq→ξ,reduceAdd→ζ,le_trans→χ,le_refl→η,zero_le→qBh,lt_or_ge→qBj
open List renaming all_eq_true→qBd
namespace Go.Q
open Go.Proofs
set_option maxRecDepth 100000
set_option maxHeartbeats 4000000
structure En (h:PH) (b:Bool) (x y:Value) (o:Option Rat):Prop where
 jk:∃n d,Jk h b x y n d
 fr:∀q,o=some q→Fr h (.agg #[.bool b,x,y]) q
theorem En.to {h h':PH} {b:Bool} {x y:Value} {o:Option Rat} (r:En h b x y o) [Le h h']:En h' b x y o:=⟨let ⟨n,d,j⟩:=r.jk;⟨n,d,j.to⟩,fun q e=>(r.fr q e).to⟩
theorem En.of {h:PH} {b:Bool} {x y:Value} {q:Rat} (r:Fr h (.agg #[.bool b,x,y]) q):En h b x y (some q):=⟨⟨_,_,r.jk'⟩,fun q' e=>by cases e;exact r⟩
theorem En.num {h:PH} {b:Bool} {x y:Value} {q:Rat} (r:En h b x y (some q)):Fr h (.agg #[.bool b,x,y]) q:=r.fr q rfl
theorem En.junk {h:PH} {b:Bool} {x y:Value} {o:Option Rat} (r:En h b x y o):En h b x y none:=⟨r.jk,fun _ e=>by cases e⟩
theorem En.nil (h:PH):En h false (.slice none 0 0) (.slice none 0 0) none:=⟨⟨0,0,N32.zero h,N32.zero h⟩,fun _ e=>by cases e⟩
theorem En.sl {h:PH} {b:Bool} {x y:Value} {o:Option Rat} (r:En h b x y o):∃na nl nc da dl dc,x=.slice na nl nc∧y=.slice da dl dc:=let ⟨_,_,j⟩:=r.jk;j.sl
def Sn (h:PH) (v:Value):NS→Prop
 |.e=>∃b1 x1 y1 b2 x2 y2 l u,v=.agg #[.bool b1,x1,y1,.bool b2,x2,y2,.bool l,.bool u,.bool true]∧En h b1 x1 y1 none∧En h b2 x2 y2 none
 |.i lo hi=>∃b1 x1 y1 b2 x2 y2,v=.agg #[.bool b1,x1,y1,.bool b2,x2,y2,.bool lo.isNone,.bool hi.isNone,.bool false]∧En h b1 x1 y1 lo∧En h b2 x2 y2 hi
theorem Sn.to {h h':PH} {v:Value} {x:NS} (r:Sn h v x) [Le h h']:Sn h' v x:=by
 cases x with
 |e=>obtain⟨b1,x1,y1,b2,x2,y2,l,u,hv,h1,h2⟩:=r;exact⟨b1,x1,y1,b2,x2,y2,l,u,hv,h1.to,h2.to⟩
 |i a b=>obtain⟨b1,x1,y1,b2,x2,y2,hv,h1,h2⟩:=r;exact⟨b1,x1,y1,b2,x2,y2,hv,h1.to,h2.to⟩
theorem Sn.ee {h:PH} {v:Value} (r:Sn h v .e):∃b1 a1 m1 c1 a2 m2 c2 b2 a3 m3 c3 a4 m4 c4 l u,v=.agg #[.bool b1,.slice a1 m1 c1,.slice a2 m2 c2,.bool b2,.slice a3 m3 c3,.slice a4 m4 c4,.bool l,.bool u,.bool true]∧
  En h b1 (.slice a1 m1 c1) (.slice a2 m2 c2) none∧En h b2 (.slice a3 m3 c3) (.slice a4 m4 c4) none:=by
 obtain⟨b1,x1,y1,b2,x2,y2,l,u,rfl,h1,h2⟩:=r
 obtain⟨_,_,_,_,_,_,rfl,rfl⟩:=h1.sl
 obtain⟨_,_,_,_,_,_,rfl,rfl⟩:=h2.sl
 exact⟨_,_,_,_,_,_,_,_,_,_,_,_,_,_,_,_,rfl,h1,h2⟩
theorem Sn.ie {h:PH} {v:Value} {lo hi:Option Rat} (r:Sn h v (.i lo hi)):∃b1 a1 m1 c1 a2 m2 c2 b2 a3 m3 c3 a4 m4 c4,v=.agg #[.bool b1,.slice a1 m1 c1,.slice a2 m2 c2,.bool b2,.slice a3 m3 c3,.slice a4 m4 c4,.bool lo.isNone,.bool hi.isNone,.bool false]∧
  En h b1 (.slice a1 m1 c1) (.slice a2 m2 c2) lo∧En h b2 (.slice a3 m3 c3) (.slice a4 m4 c4) hi:=by
 obtain⟨b1,x1,y1,b2,x2,y2,rfl,h1,h2⟩:=r
 obtain⟨_,_,_,_,_,_,rfl,rfl⟩:=h1.sl
 obtain⟨_,_,_,_,_,_,rfl,rfl⟩:=h2.sl
 exact⟨_,_,_,_,_,_,_,_,_,_,_,_,_,_,rfl,h1,h2⟩
theorem Sn.sa {h:PH} {v:Value} {x:NS} (r:Sn h v x):∃b1 a1 m1 c1 a2 m2 c2 b2 a3 m3 c3 a4 m4 c4 l u,v=.agg #[.bool b1,.slice a1 m1 c1,.slice a2 m2 c2,.bool b2,.slice a3 m3 c3,.slice a4 m4 c4,.bool l,.bool u,.bool x.void]∧
  Sn h (.agg #[.bool b1,.slice a1 m1 c1,.slice a2 m2 c2,.bool b2,.slice a3 m3 c3,.slice a4 m4 c4,.bool l,.bool u,.bool x.void]) x:=by
 cases x with
 |e=>obtain⟨b1,a1,m1,c1,a2,m2,c2,b2,a3,m3,c3,a4,m4,c4,l,u,rfl,h1,h2⟩:=r.ee;exact⟨_,_,_,_,_,_,_,_,_,_,_,_,_,_,_,_,rfl,_,_,_,_,_,_,_,_,rfl,h1,h2⟩
 |i a b=>obtain⟨b1,a1,m1,c1,a2,m2,c2,b2,a3,m3,c3,a4,m4,c4,rfl,h1,h2⟩:=r.ie;exact⟨_,_,_,_,_,_,_,_,_,_,_,_,_,_,_,_,rfl,_,_,_,_,_,_,rfl,h1,h2⟩
def PS.n (s:PS):NS:=bif s.e then .e else .i (bif s.l then none else some s.lo) (bif s.u then none else some s.hi)
theorem Sr.sn {h:PH} {v:Value} {s:PS} (r:Sr h v s):Sn h v s.n:=by
 obtain⟨lo,hi,l,u,e⟩:=s
 obtain⟨b1,x1,y1,b2,x2,y2,rfl,j1,j2,f1,f2⟩:=r
 dsimp only at*
 cases e with
 |true=>exact⟨b1,x1,y1,b2,x2,y2,l,u,rfl,⟨j1,(fun _ e=>by cases e)⟩,⟨j2,(fun _ e=>by cases e)⟩⟩
 | false=>
  cases l<;>cases u<;>refine⟨b1,x1,y1,b2,x2,y2,rfl,⟨j1,fun q e=>?_⟩,⟨j2,fun q e=>?_⟩⟩<;>simp at e
  ·subst e;exact f1 rfl rfl
  ·subst e;exact f2 rfl rfl
  ·subst e;exact f1 rfl rfl
  ·subst e;exact f2 rfl rfl
theorem Sn.sr {h:PH} {v:Value} {x:NS} (r:Sn h v x):∃s,Sr h v s∧s.n=x:=by
 cases x with
 | e=>
  obtain⟨b1,x1,y1,b2,x2,y2,l,u,rfl,h1,h2⟩:=r
  exact⟨⟨0,0,l,u,true⟩,⟨b1,x1,y1,b2,x2,y2,rfl,h1.jk,h2.jk,(fun _ e=>by cases e),(fun _ e=>by cases e)⟩,rfl⟩
 | i a b=>
  obtain⟨b1,x1,y1,b2,x2,y2,rfl,h1,h2⟩:=r
  refine⟨⟨a.getD 0,b.getD 0,a.isNone,b.isNone,false⟩,⟨b1,x1,y1,b2,x2,y2,rfl,h1.jk,h2.jk,fun e _=>?_,fun e _=>?_⟩,?_⟩
  ·cases a with
   |none=>cases e
   |some a=>exact h1.num
  ·cases b with
   |none=>cases e
   |some b=>exact h2.num
  ·cases a<;>cases b<;>rfl
structure RI where
 n1:Bool
 a1:Nat
 d1:Nat
 n2:Bool
 a2:Nat
 d2:Nat
 l:Bool
 u:Bool
def Iv (h:PH) (v:Value) (x:RI):Prop:=Iw h v x.n1 x.a1 x.d1 x.n2 x.a2 x.d2 x.l x.u
theorem Iv.to {h h':PH} {v:Value} {x:RI} (r:Iv h v x) [Le h h']:Iv h' v x:=let ⟨a,b,c,d,e,h1,h2⟩:=r;⟨a,b,c,d,e,h1.to,h2.to⟩
theorem Iv.sa {h:PH} {v:Value} {x:RI} (r:Iv h v x):∃a1 m1 c1 a2 m2 c2 a3 m3 c3 a4 m4 c4,v=.agg #[.bool x.n1,.slice a1 m1 c1,.slice a2 m2 c2,.bool x.n2,.slice a3 m3 c3,.slice a4 m4 c4,.bool x.l,.bool x.u]∧
  Rw h (.agg #[.bool x.n1,.slice a1 m1 c1,.slice a2 m2 c2]) x.n1 x.a1 x.d1∧Rw h (.agg #[.bool x.n2,.slice a3 m3 c3,.slice a4 m4 c4]) x.n2 x.a2 x.d2:=by
 obtain⟨x1,y1,x2,y2,rfl,h1,h2⟩:=r
 have e1:=h1
 have e2:=h2
 obtain⟨_,_,_,_,_,_,e1,_⟩:=e1
 obtain⟨_,_,_,_,_,_,e2,_⟩:=e2
 simp only[Value.agg.injEq,Array.mk.injEq,List.cons.injEq,and_true,true_and] at e1 e2
 obtain⟨rfl,rfl⟩:=e1
 obtain⟨rfl,rfl⟩:=e2
 exact⟨_,_,_,_,_,_,_,_,_,_,_,_,rfl,h1,h2⟩
namespace RI
def lo (x:RI):Option Rat:=bif x.l then none else some (qof x.n1 x.a1 x.d1)
def hi (x:RI):Option Rat:=bif x.u then none else some (qof x.n2 x.a2 x.d2)
def set (x:RI):NS:=NS.mk' x.lo x.hi
def big (x:RI):Bool:=decide (Go.Q.lg x.n1 x.a1 x.d1) || decide (Go.Q.lg x.n2 x.a2 x.d2)
theorem set_ok (x:RI):x.set.ok:=by
 unfold set NS.mk'
 cases h:ordO x.lo x.hi with
 |true=>exact h
 |false=>trivial
theorem small {x:RI} (h:x.big=false):¬Go.Q.lg x.n1 x.a1 x.d1∧¬Go.Q.lg x.n2 x.a2 x.d2:=by
 unfold big at h
 simpa using h
theorem large {x:RI} (h:x.big=true):Go.Q.lg x.n1 x.a1 x.d1∨Go.Q.lg x.n2 x.a2 x.d2:=by
 unfold big at h
 simpa using h
theorem set_eq (x:RI):(rdS (qof x.n1 x.a1 x.d1) (qof x.n2 x.a2 x.d2) x.l x.u).n=x.set:=by
 unfold set lo hi rdS PS.n NS.mk'
 generalize qof x.n1 x.a1 x.d1=a
 generalize qof x.n2 x.a2 x.d2=b
 cases x.l<;>cases x.u<;>simp[ordO]
theorem le {x:RI} (h:x.big=false):x.set.le 2048:=by
 obtain⟨h1,h2⟩:=small h
 have z1:sz (qof x.n1 x.a1 x.d1)≤2048:=by unfold Go.Q.lg at h1;omega
 have z2:sz (qof x.n2 x.a2 x.d2)≤2048:=by unfold Go.Q.lg at h2;omega
 unfold set lo hi NS.mk'
 cases x.l<;>cases x.u<;>simp[ordO]
 ·generalize qof x.n1 x.a1 x.d1=a at*
  generalize qof x.n2 x.a2 x.d2=b at*
  by_cases h:b < a<;>simp[h,NS.le,NS.all,z1,z2]
 ·simp[NS.le,NS.all,z1]
 ·simp[NS.le,NS.all,z2]
 ·simp[NS.le,NS.all]
end RI
theorem NS.le_i {k:Nat} {a b:Option Rat}:(NS.i a b).le k↔(∀q,a=some q→sz q≤k)∧(∀q,b=some q→sz q≤k):=by
 unfold NS.le NS.all
 cases a<;>cases b<;>simp
theorem NS.le.up {k m:Nat} {x:NS} (h:x.le k) (hm:k≤m):x.le m:=by
 cases x with
 |e=>rfl
 | i a b=>
  rw[NS.le_i] at h ⊢
  exact⟨fun q e=>χ (h.1 q e) hm,fun q e=>χ (h.2 q e) hm⟩
theorem PS.fin_n {s:PS} {k:Nat}:s.fin k↔s.n.le k:=by
 obtain⟨lo,hi,l,u,e⟩:=s
 unfold PS.fin PS.n
 cases e with
 |true=>simp[NS.le,NS.all]
 | false=>
  dsimp only[cond_false]
  rw[NS.le_i]
  cases l<;>cases u<;>simp
theorem fF {h0 h:PH} [Le h0 h] {v:Value} {x:RI} (hv:Iv h0 v x) (g:x.big=true):Spec mach 47 #[v] h NR (fail 1):=JL hv (RI.large g)
theorem Hull_set {h0 h:PH} [Le h0 h] {v:Value} {x:NS} {p:Nat} (hv:Sn h0 v x) (hf:x.le (2^30)) (hp:p≤2^30):
  Spec mach 127 #[v,.int .i64 p] h (fun v h'=>Sn h' v (x.hull p)) NP:=by
 obtain⟨s,hs,rfl⟩:=hv.sr
 refine(Jq hs (PS.fin_n.2 hf) hp).mono (fun v h' _ r=>?_) (fun _ _ _ e=>e)
 have:(hullS s p).n=s.n.hull p:=by
  obtain⟨lo,hi,l,u,e⟩:=s
  cases e<;>cases l<;>cases u<;>rfl
 rw[←this]
 exact r.sn
theorem jK {h0 h:PH} [Le h0 h] {v:Value} {x:NS} (hv:Sn h0 v x):Spec mach 165 #[v] h (fun v h'=>Sn h' v x.minus) NP:=by
 obtain⟨s,hs,rfl⟩:=hv.sr
 refine(Fu hs).mono (fun v h' _ r=>?_) (fun _ _ _ e=>e)
 have:(minusS s).n=s.n.minus:=by
  obtain⟨lo,hi,l,u,e⟩:=s
  cases e<;>cases l<;>cases u<;>rfl
 rw[←this]
 exact r.sn
def Cv (h:PH) (v:Value) (x:NS):Prop:=Ci h v (match x with |.e=>⟨1,0,false,false,true⟩ |.i a b=>⟨a.getD 0,b.getD 0,a.isNone,b.isNone,false⟩)
theorem Cv.to {h h':PH} {v:Value} {x:NS} (r:Cv h v x) [Le h h']:Cv h' v x:=Ci.to r
theorem canS_n (s:PS):canS s=(match s.n with |.e=>⟨1,0,false,false,true⟩ |.i a b=>⟨a.getD 0,b.getD 0,a.isNone,b.isNone,false⟩:PS):=by
 obtain⟨lo,hi,l,u,e⟩:=s
 cases e<;>cases l<;>cases u<;>rfl
theorem Ck {h0 h:PH} [Le h0 h] {v:Value} {x:NS} (hv:Sn h0 v x) (hf:x.le 2048):Spec mach 207 #[v] h (fun v h'=>Cv h' v x) NP:=by
 obtain⟨s,hs,rfl⟩:=hv.sr
 refine(give_ok hs (PS.fin_n.2 hf)).mono (fun v h' _ r=>?_) (fun _ _ _ e=>e)
 unfold Cv
 rw[←canS_n]
 exact r
theorem ze {h0 h:PH} [Le h0 h] {v:Value} {x:NS} (hv:Sn h0 v x) (hf:¬x.le 2048):Spec mach 207 #[v] h NR (fail 1):=by
 obtain⟨s,hs,rfl⟩:=hv.sr
 exact Jj hs (fun k=>hf (PS.fin_n.1 k))
open Go.Proofs Go.Proofs.YtgmcchhklbeckaaGreatDoor
open Go.ChangeShapes Go.WideShapes Go.ChangeAt Go.RowKit
def pub (W:World):PH:=fun b=>match W.heap[b]? with
 |some (.cells cs _ _)=>some cs
 |_=>none
theorem pub_has (W:World):Has W (pub W):=fun b cs hb=>by
 unfold pub at hb
 split at hb
 ·rename_i hx;cases hb;exact⟨_,_,hx⟩
 ·cases hb
theorem pub_at (W:World) (a:Addr):(pub W).at a=W.cell? a:=by
 unfold PH.at pub World.cell?
 cases hx:W.heap[a.block]? with
 |none=>simp
 |some o=>cases o<;>simp
def flds (P:Program) (t:TypeId):Option (List (Nat×Nat)):=match P.underlying t with
 |some (.struct fs)=>some (fs.toList.map fun f=>(f.type,f.offset))
 |_=>none
theorem flds_some {P:Program} {t:TypeId} {l:List (Nat×Nat)} (h:flds P t=some l):∃fs,P.underlying t=some (.struct fs)∧fs.toList.map (fun f=>(f.type,f.offset))=l:=by
 unfold flds at h
 split at h
 ·rename_i fs hx;cases h;exact⟨fs,hx,rfl⟩
 ·cases h
theorem fl24:flds Tryz.prog 24=some [(4,0),(22,1),(22,2)]:=by kernel_rfl
theorem fl26:flds Tryz.prog 35=some [(24,0),(24,3),(4,6),(4,7)]:=by kernel_rfl
theorem un22:Tryz.prog.underlying 22=some (.slice 62):=by kernel_rfl
theorem un76:Tryz.prog.underlying 62=some (.int .u32):=by kernel_rfl
theorem un4:Tryz.prog.underlying 4=some .bool:=by kernel_rfl
theorem un3:Tryz.prog.underlying 3=some (.int .i64):=by kernel_rfl
theorem ce4:Tryz.prog.cellsOf 4=1:=by kernel_rfl
theorem ce22:Tryz.prog.cellsOf 22=1:=by kernel_rfl
theorem ce76:Tryz.prog.cellsOf 62=1:=by kernel_rfl
theorem ce24:Tryz.prog.cellsOf 24=3:=by kernel_rfl
theorem ce26:Tryz.prog.cellsOf 35=8:=by kernel_rfl
section
variable {H:Type} {enc:TypeId×Value→H} {W:World} {sp:Nat→Bool} {held:Bool}
theorem bulk_mem {d:DataW H} {l:List (DataW H)} (h:d∈l):Rows.uptoBulk d≤Rows.uptoBulkAll l:=by
 induction l with
 |nil=>cases h
 | cons x r ih=>
  simp only[Rows.uptoBulkAll]
  cases List.mem_cons.1 h with
  |inl e=>subst e;omega
  |inr e=>have:=ih e;omega
theorem bulk_len (l:List (DataW H)):l.length≤Rows.uptoBulkAll l:=by
 induction l with
 |nil=>simp[Rows.uptoBulkAll]
 | cons x r ih=>
  have:1≤Rows.uptoBulk x:=by
   cases x with
   |lit l=>cases l<;>simp[Rows.uptoBulk]
   |_=>simp[Rows.uptoBulk]
  simp only[Rows.uptoBulkAll,List.length_cons]
  omega
theorem open_words {fuel:Nat} {cs:List Value} {x:DataW H×List MemPlace} (h:DataW.trod enc Tryz.prog W 0 sp held fuel 22 cs=some x) {B:Nat} (hB:B≤1048576) (hk:Rows.uptoBulk x.1≤B):
  ∃a xs c,cs=[.slice a xs.length c]∧Arr (pub W) a c xs∧xs.length≤2^30:=by
 rcases open_ints un22 un76 ce76 h with⟨rfl,rfl⟩ |⟨a,len,cap,zs,rfl,_,hl,hm,hz,rfl,hcell,hwf⟩
 ·exact⟨none,[],0,rfl,Arr.nil _,by simp⟩
 ·have hzl:len≤zs.length:=by rw[hz];split<;>omega
  have hb:len≤1048576:=by
   simp only[Rows.uptoBulk] at hk
   have e:(lits (H:=H) .u32 (zs.take len)).length=len:=by simp[lits];omega
   have:=bulk_len (H:=H) (lits .u32 (zs.take len))
   rw[e] at this
   omega
  refine⟨some a,(zs.take len).map Int.toNat,cap,?_,⟨?_,?_,?_,?_⟩,?_⟩
  ·simp;omega
  ·simp;omega
  ·simp;omega
  ·intro y hy
   obtain⟨z,hz,rfl⟩:=List.mem_map.1 hy
   have:=bounds_u32 (hwf z (List.mem_of_mem_take hz))
   omega
  ·intro i y hy
   rw[List.getElem?_map,Option.map_eq_some_iff] at hy
   obtain⟨z,hz',rfl⟩:=hy
   rw[List.getElem?_take] at hz'
   split at hz'
   ·refine⟨a,rfl,?_⟩
    have hi:i < zs.length:=(List.getElem?_eq_some_iff.1 hz').1
    rw[pub_at,hcell i hi]
    have e:zs.getD i 0=z:=by simp[hz']
    have:=bounds_u32 (hwf z (List.mem_of_getElem? hz'))
    rw[e]
    congr 2
    omega
   ·cases hz'
  ·simp;omega
theorem open_rat {fuel:Nat} {cs:List Value} {x:DataW H×List MemPlace} (h:DataW.trod enc Tryz.prog W 0 sp held fuel 24 cs=some x) {B:Nat} (hB:B≤1048576) (hk:Rows.uptoBulk x.1≤B):
  ∃neg n d,Rw (pub W) (.agg cs.toArray) neg n d∧cs.length=3:=by
 obtain⟨fs,hu,hf⟩:=flds_some fl24
 obtain⟨xs,n,rfl,rfl,hl,hsz,hg⟩:=DataW.trod_struct hu h
 rw[ce24] at hl
 have hfs:fs.size=3:=by
  have:=congrArg List.length hf
  simpa using this
 match cs,hl with
 |[c0,c1,c2],_=>
 have get:∀(i t o:Nat),(fs.toList.map fun f=>(f.type,f.offset))[i]?=some (t,o)→∃f:Field,fs[i]?=some f∧f.type=t∧f.offset=o:=by
  intro i t o hi
  rw[List.getElem?_map,Option.map_eq_some_iff] at hi
  obtain⟨f,h1,h2⟩:=hi
  cases h2
  exact⟨f,by simpa using h1,rfl,rfl⟩
 obtain⟨f0,k0,e0,o0⟩:=get 0 4 0 (by rw[hf];rfl)
 obtain⟨f1,k1,e1,o1⟩:=get 1 22 1 (by rw[hf];rfl)
 obtain⟨f2,k2,e2,o2⟩:=get 2 22 2 (by rw[hf];rfl)
 have g0:=hg 0 f0 k0
 have g1:=hg 1 f1 k1
 have g2:=hg 2 f2 k2
 rw[e0,o0,ce4] at g0
 rw[e1,o1,ce22] at g1
 rw[e2,o2,ce22] at g2
 rw[hfs] at hsz
 match xs,hsz with
 |[y0,y1,y2],_=>
 simp only[List.drop_zero,List.take_succ_cons,List.take_zero,List.drop_succ_cons,List.getElem?_cons_zero,List.getElem?_cons_succ] at g0 g1 g2
 simp only[Rows.uptoBulk,List.map_cons,List.map_nil,Rows.uptoBulkAll] at hk
 obtain⟨b,e,_⟩:=DataW.trod_bool un4 g0
 obtain⟨a1,xs1,c1',e1,A1,l1⟩:=open_words g1 hB (by omega)
 obtain⟨a2,xs2,c2',e2,A2,l2⟩:=open_words g2 hB (by omega)
 cases e
 cases e1
 cases e2
 exact⟨b,_,_,⟨a1,c1',xs1,a2,c2',xs2,rfl,A1,A2,rfl,rfl,l1,l2⟩,rfl⟩
theorem open_iv {fuel:Nat} {cs:List Value} {x:DataW H×List MemPlace} (h:DataW.trod enc Tryz.prog W 0 sp held fuel 35 cs=some x) {B:Nat} (hB:B≤1048576) (hk:Rows.uptoBulk x.1≤B):
  ∃y:RI,Iv (pub W) (.agg cs.toArray) y:=by
 obtain⟨fs,hu,hf⟩:=flds_some fl26
 obtain⟨xs,n,rfl,rfl,hl,hsz,hg⟩:=DataW.trod_struct hu h
 rw[ce26] at hl
 have hfs:fs.size=4:=by
  have:=congrArg List.length hf
  simpa using this
 match cs,hl with
 |[c0,c1,c2,c3,c4,c5,c6,c7],_=>
 have get:∀(i t o:Nat),(fs.toList.map fun f=>(f.type,f.offset))[i]?=some (t,o)→∃f:Field,fs[i]?=some f∧f.type=t∧f.offset=o:=by
  intro i t o hi
  rw[List.getElem?_map,Option.map_eq_some_iff] at hi
  obtain⟨f,h1,h2⟩:=hi
  cases h2
  exact⟨f,by simpa using h1,rfl,rfl⟩
 obtain⟨f0,k0,e0,o0⟩:=get 0 24 0 (by rw[hf];rfl)
 obtain⟨f1,k1,e1,o1⟩:=get 1 24 3 (by rw[hf];rfl)
 obtain⟨f2,k2,e2,o2⟩:=get 2 4 6 (by rw[hf];rfl)
 obtain⟨f3,k3,e3,o3⟩:=get 3 4 7 (by rw[hf];rfl)
 have g0:=hg 0 f0 k0
 have g1:=hg 1 f1 k1
 have g2:=hg 2 f2 k2
 have g3:=hg 3 f3 k3
 rw[e0,o0,ce24] at g0
 rw[e1,o1,ce24] at g1
 rw[e2,o2,ce4] at g2
 rw[e3,o3,ce4] at g3
 rw[hfs] at hsz
 match xs,hsz with
 |[y0,y1,y2,y3],_=>
 simp only[List.drop_zero,List.take_succ_cons,List.take_zero,List.drop_succ_cons,List.getElem?_cons_zero,List.getElem?_cons_succ] at g0 g1 g2 g3
 simp only[Rows.uptoBulk,List.map_cons,List.map_nil,Rows.uptoBulkAll] at hk
 obtain⟨l,e2,_⟩:=DataW.trod_bool un4 g2
 obtain⟨u,e3,_⟩:=DataW.trod_bool un4 g3
 obtain⟨n1,a1,d1,r1,_⟩:=open_rat g0 hB (by omega)
 obtain⟨n2,a2,d2,r2,_⟩:=open_rat g1 hB (by omega)
 cases e2
 cases e3
 have q1:=r1
 have q2:=r2
 obtain⟨_,_,_,_,_,_,e1,_⟩:=q1
 obtain⟨_,_,_,_,_,_,e2,_⟩:=q2
 simp only[Value.agg.injEq,Array.mk.injEq,List.cons.injEq,and_true] at e1 e2
 obtain⟨rfl,rfl,rfl⟩:=e1
 obtain⟨rfl,rfl,rfl⟩:=e2
 exact⟨⟨n1,a1,d1,n2,a2,d2,l,u⟩,_,_,_,_,rfl,r1,r2⟩
theorem stays {P:Program} {W':World} {sp:Nat→Bool} (hl:laidOutB P=true) (hb:Below W.heap.size W W') (ts:List TypeId):∀(vs:List Value) (ds:List (DataW H)) (p:List MemPlace),(∀t∈ts,P.readableRec t=true∧t < P.types.size)→(∀x∈p,x.block < W.heap.size)→(∀x∈p,sp x.block=true)→
  DataW.TrodAll enc P W 0 (fun _=>true) true ts vs ds p→DataW.TrodAll enc P W' 0 sp true ts vs ds p:=by
 induction ts with
 | nil=>
  intro vs ds p _ _ _ h
  cases vs with
  | nil=>cases ds with
   |nil=>exact h
   |cons d ds=>exact h.elim
  |cons v vs=>exact h.elim
 | cons t ts ih=>
  intro vs ds p hr hlt hsp h
  cases vs with
  |nil=>exact h.elim
  | cons v vs=>
   cases ds with
   |nil=>exact h.elim
   | cons d ds=>
    obtain⟨p,q,h1,h2,rfl⟩:=h
    have ht:=hr t (by simp)
    exact⟨p,q,WideElems.Trod_stays hl ht.1 ht.2 h1 (fun x hx=>hb.same (hlt x (by simp[hx]))) (fun x hx=>hsp x (by simp[hx])),ih vs ds q (fun u hu=>hr u (by simp[hu])) (fun x hx=>hlt x (by simp[hx])) (fun x hx=>hsp x (by simp[hx])) h2,rfl⟩
theorem post_true {f:Func} {s:ChangeSpec} {W':World} {args:Array Value} {ds:List (DataW H)} {before:List MemPlace} (hl:laidOutB Tryz.prog=true) (hv:s.vars=[]) (hr:f.resultTypes=#[4]) (hs:s.fn H ds={results:=[.lit (.bool true)],args:=ds})
  (hrd:∀t∈f.params.toList,Tryz.prog.readableRec t=true∧t < Tryz.prog.types.size)
  (hW:DataW.Whole enc Tryz.prog f.params.toList s.vars false W args.toList ds [] before) (hb:Below W.heap.size W W'):s.post enc Tryz.prog f false true false false W args (.bool true) W':=by
 have hlt:∀p∈before,p.block < W.heap.size:=hW.lt
 have hW0:=hW
 rw[hv] at hW0
 obtain⟨p,q,hA,hV,rfl,hz,hn⟩:=hW0
 obtain rfl:q=[]:=hV
 rw[List.append_nil] at hlt hz
 have hold:∀x∈p,(fun b=>decide (b < W.heap.size)) x.block=true:=fun x hx=>by simpa using hlt x hx
 have hres:∀(b:Nat) (sp:Nat→Bool) (hd:Bool),DataW.TrodAll enc Tryz.prog W' b sp hd f.resultTypes.toList ((Value.bool true).resultList f.resultTypes.size) (s.fn H (ds ++[])).results []:=by
  intro b sp hd
  rw[List.append_nil,hs,hr]
  exact trodAll_cons_mk (shut_bool un4 _) trodAll_mk0
 have hargs:∀sp:Nat→Bool,(∀x∈p,sp x.block=true)→DataW.TrodAll enc Tryz.prog W' 0 sp true f.params.toList args.toList (s.fn H (ds ++[])).args p:=by
  intro sp hsp
  rw[List.append_nil,hs]
  exact stays hl hb _ _ _ _ hrd hlt hsp hA
 have hvars:∀sp:Nat→Bool,DataW.TrodVars enc Tryz.prog W' sp s.vars (s.fn H (ds ++[])).vars []:=by
  intro sp
  rw[List.append_nil,hs,hv]
  rfl
 refine⟨ds,[],p ++[],[],p,[],hW,hres _ _ _,hargs _ hold,hvars _,World.keptBut_mono (fun x hx=>⟨hx,?_⟩) (hb.frame (· ∈p ++[])),fun h=>by cases h⟩
 simpa using hx
theorem laid_gl {W:World} (h:laidMetH Tryz.prog [("math/bits.deBruijn32tab",Rows.laid_math_bits_deBruijn32tab)] W):Sub mach.gl (pub W):=by
 have ht:Lib.TabIs Tryz.prog W "math/bits.deBruijn32tab" .u8 debruijn:=
  Lib.tabIs_of_head (rest:=[]) (g:=0) (t:=289) (e:=5) (n:=32) (by kernel_rfl) (by kernel_rfl) (by kernel_rfl) (by kernel_rfl) (by kernel_rfl) (by kernel_rfl) h
 have hg:Tryz.prog.globalNamed "math/bits.deBruijn32tab"=some 0:=by kernel_rfl
 unfold Lib.TabIs World.var? at ht
 rw[hg] at ht
 intro b cs hb
 have hb':(if b=0 then some tabCells else none)=some cs:=hb
 split at hb'
 ·rename_i e
  subst e
  cases hb'
  unfold pub
  simp only[Option.bind_some] at ht
  split at ht
  ·rename_i hx
   rw[hx]
   simpa[tabCells] using ht
  ·cases ht
 ·cases hb'
end
set_option maxHeartbeats 8000000
def nmL:List ByteArray:=[⟨#[101,120,112]⟩,⟨#[108,111,103]⟩,⟨#[115,105,110]⟩,⟨#[99,111,115]⟩,⟨#[116,97,110]⟩,⟨#[97,115,105,110]⟩,⟨#[97,99,111,115]⟩,⟨#[97,116,97,110]⟩]
def nm (i:Nat):ByteArray:=nmL.getD i ⟨#[]⟩
def nmV:List Value:=nmL.map Value.string
def Fd (s:ByteArray) (n:Int) (b:Bool):Prop:=(b=true∧∃i:Nat,i < 8∧n=(i:Int)+1∧((nm i).toList == s.toList)=true∧∀j,j < i→((nm j).toList == s.toList)=false)∨(b=false∧n=0∧∀j,j < 8→((nm j).toList == s.toList)=false)
theorem Fd.one {s:ByteArray} {n n':Int} {b b':Bool} (h:Fd s n b) (h':Fd s n' b'):n=n'∧b=b':=by
 rcases h with⟨rfl,i,hi,rfl,e,l⟩ |⟨rfl,rfl,l⟩<;>rcases h' with⟨rfl,i',hi',rfl,e',l'⟩ |⟨rfl,rfl,l'⟩
 ·rcases Nat.lt_trichotomy i i' with k |k |k
  ·rw[l' i k] at e;cases e
  ·subst k;exact⟨rfl,rfl⟩
  ·rw[l i' k] at e';cases e'
 ·rw[l' i hi] at e;cases e
 ·rw[l i' hi'] at e';cases e'
 ·exact⟨rfl,rfl⟩
theorem nm_ne:((List.range 8).all fun i=>(List.range i).all fun j=>!((nm j).toList == (nm i).toList))=true:=by decide+kernel
theorem nm_em:((List.range 8).all fun j=>!((nm j).toList == (⟨#[]⟩:ByteArray).toList))=true:=by decide+kernel
theorem Fd.nm {i:Nat} (hi:i < 8):Fd (nm i) ((i:Int)+1) true:=by
 refine .inl ⟨rfl,i,hi,rfl,by simp,fun j hj=>?_⟩
 have:=qBd.1 (qBd.1 nm_ne i (List.mem_range.2 hi)) j (List.mem_range.2 hj)
 simpa using this
theorem Fd.em:Fd ⟨#[]⟩ 0 false:=by
 refine .inr ⟨rfl,rfl,fun j hj=>?_⟩
 have:=qBd.1 nm_em j (List.mem_range.2 hj)
 simpa using this
theorem nm_at {h:PH} {b:Nat} (hb:h b=some nmV.toArray) {i:Nat} (hi:i < 8):h.at ⟨b,i,none⟩=some (.string (nm i)):=by
 have:∀i,i < 8→(nmV.toArray)[i]?=some (.string (nm i)):=by
  intro i hi
  obtain rfl |rfl |rfl |rfl |rfl |rfl |rfl |rfl:i=0∨i=1∨i=2∨i=3∨i=4∨i=5∨i=6∨i=7:=by omega
  all_goals rfl
 have:=this i hi
 simpa[PH.at,hb] using this
theorem wV {h:PH}:Spec mach 217 #[] h (fun v h'=>∃b,v=.slice (some ⟨b,0,none⟩) 8 8∧h' b=some nmV.toArray) NP:=by
 refine Spec.go [(1,.t (.s [0] (.p 0 (.s [1] .d))))] Tryz.func217 rfl rfl (by kernel_rfl) fun C _=>?_
 try simp(disch:=omega) only[go_sem,ξ,ζ]
 intro b h1 st1 hb
 try simp(disch:=omega) only[go_sem,ξ,ζ]
 have hb:=hb (by simp)
 try simp(disch:=omega) only[go_sem,ξ,ζ]
 exact⟨_,rfl,hb⟩
theorem qw {h:PH} {s:ByteArray}:Spec mach 146 #[.string s] h (fun v _=>∃n b,v=.tuple #[.int .i64 n,.bool b]∧Fd s n b) NP:=by
 refine Spec.go [] Tryz.func146 rfl rfl (by kernel_rfl) fun C _=>?_
 try simp(disch:=omega) only[go_sem,ξ,ζ]
 refine caN (by exact wV) ?_;rintro v1 h1 s1 ⟨b,rfl,hb⟩
 try simp(disch:=omega) only[go_sem,ξ,ζ]
 refine lp [] (fun i:Nat=>⟨[(0,.v (.string s)),(6,.v (.slice (some ⟨b,0,none⟩) 8 8)),(7,.v (.int .i64 8)),(8,.v (.int .i64 i))],[]⟩) (fun i h'=>Le h1 h'∧i≤8∧∀j,j < i→((nm j).toList == s.toList)=false) (fun i=>8 - i) 0 ?_ ⟨inferInstance,by decide,fun j hj=>absurd hj (by omega)⟩ (by kernel_rfl) ?_
 ·try simp(disch:=omega) only[go_sem,ξ,ζ]
  all_goals rfl
 rintro i h2 ⟨le2,hi,hj⟩
 by_cases h8:i=8
 ·subst h8
  try simp(disch:=omega) only[go_sem,ξ,ζ]
  exact Exists.intro _ ⟨_,rfl,.inr ⟨rfl,rfl,hj⟩⟩
 ·have hi8:i < 8:=by omega
  have hb2:h2 b=some nmV.toArray:=le2.sub _ _ hb
  try simp(disch:=omega) only[go_sem,ξ,ζ]
  refine aE (nm_at hb2 hi8) ?_
  try simp(disch:=omega) only[go_sem,ξ,ζ]
  cases e:((nm i).toList == s.toList) with
  | true=>
   try simp(disch:=omega) only[go_sem,ξ,ζ,e]
   exact Exists.intro _ ⟨_,rfl,.inl ⟨rfl,i,hi8,by omega,e,hj⟩⟩
  | false=>
   try simp(disch:=omega) only[go_sem,ξ,ζ,e]
   dsimp only[lpE];refine⟨i+1,?_,⟨le2,by omega,fun j k=>?_⟩,by omega⟩
   ·try simp(disch:=omega) only[go_sem,ξ,ζ]
    all_goals rfl
   ·rcases qBj j i with g |g
    ·exact hj j g
    ·rw[show j=i by omega];exact e
def byt (s:ByteArray) (i:Nat):Nat:=match s[i]? with
 |some b=>b.toNat
 |none=>0
def isL (n:Nat):Bool:=decide (97≤n) && decide (n≤122)
def isW (n:Nat):Bool:=isL n || (decide (48≤n) && decide (n≤57))
def wordB (s:ByteArray):Bool:=decide (0 < s.size) && isL (byt s 0) && (List.range s.size).all fun i=>isW (byt s i)
def res11:List ByteArray:=[⟨#[112,105]⟩,⟨#[97,98,115]⟩,⟨#[109,105,110]⟩,⟨#[109,97,120]⟩,⟨#[114,111,111,116]⟩,⟨#[115,113,114,116]⟩,⟨#[105,102]⟩,⟨#[105,110,102]⟩,⟨#[102,111,114]⟩,⟨#[105,110]⟩,⟨#[119,104,101,114,101]⟩]
def reswL:List ByteArray:=nmL ++res11
def resB (s:ByteArray):Bool:=reswL.any fun w=>w.toList == s.toList
def nameB (s:ByteArray):Bool:=decide (s.size≤8) && wordB s && !resB s
theorem byt_at {s:ByteArray} {i:Nat} (h:i < s.size):∃b,s[i]?=some b∧byt s i=b.toNat:=by
 refine⟨s[i],?_,?_⟩
 ·exact getElem?_pos s i h
 ·unfold byt
  rw[getElem?_pos s i h]
theorem Fd.any {s:ByteArray} {n:Int} {b:Bool} (h:Fd s n b):nmL.any (fun w=>w.toList == s.toList)=b:=by
 have k:∀i,i < 8→nmL[i]?=some (Q.nm i):=by decide+kernel
 have l:nmL.length=8:=rfl
 rcases h with⟨rfl,i,hi,_,e,_⟩ |⟨rfl,_,e⟩
 ·exact List.any_eq_true.2 ⟨Q.nm i,List.mem_of_getElem? (k i hi),e⟩
 ·refine List.any_eq_false.2 fun w hw=>?_
  obtain⟨i,hi⟩:=List.getElem?_of_mem hw
  have h8:i < 8:=by have:=(List.getElem?_eq_some_iff.1 hi).1;omega
  rw[k i h8] at hi
  cases hi
  rw[e i h8]
  decide
theorem resB_eq (s:ByteArray):resB s=(res11.any (fun w=>s.toList == w.toList) || nmL.any (fun w=>w.toList == s.toList)):=by
 unfold resB reswL
 rw[List.any_append,Bool.or_comm]
 congr 1
 exact congrArg _ (funext fun w=>by rw[Bool.beq_comm])
theorem Letter_spec {h:PH} {n:Nat}:Spec mach 144 #[.int .u8 n] h (fun v _=>v=.bool (isL n)) NP:=by
 unfold isL
 by_cases c:(97:Int)≤n
 ·rw[decide_eq_true (show 97≤n by omega)]
  by_cases d:(n:Int)≤122
  ·rw[decide_eq_true (show n≤122 by omega)]
   refine Spec.go [] Tryz.func144 rfl rfl (by kernel_rfl) fun C _=>?_
   try simp(disch:=omega) only[go_sem,ξ,ζ,c,d,decide_true]
  ·rw[decide_eq_false (show ¬n≤122 by omega)]
   refine Spec.go [] Tryz.func144 rfl rfl (by kernel_rfl) fun C _=>?_
   try simp(disch:=omega) only[go_sem,ξ,ζ,c,d,decide_true,decide_false]
 ·rw[decide_eq_false (show ¬97≤n by omega)]
  refine Spec.go [] Tryz.func144 rfl rfl (by kernel_rfl) fun C _=>?_
  try simp(disch:=omega) only[go_sem,ξ,ζ,c,decide_false]
theorem Digit_spec {h:PH} {n:Nat}:Spec mach 145 #[.int .u8 n] h (fun v _=>v=.bool (decide (48≤n) && decide (n≤57))) NP:=by
 by_cases c:(48:Int)≤n
 ·rw[decide_eq_true (show 48≤n by omega)]
  by_cases d:(n:Int)≤57
  ·rw[decide_eq_true (show n≤57 by omega)]
   refine Spec.go [] Tryz.func145 rfl rfl (by kernel_rfl) fun C _=>?_
   try simp(disch:=omega) only[go_sem,ξ,ζ,c,d,decide_true]
  ·rw[decide_eq_false (show ¬n≤57 by omega)]
   refine Spec.go [] Tryz.func145 rfl rfl (by kernel_rfl) fun C _=>?_
   try simp(disch:=omega) only[go_sem,ξ,ζ,c,d,decide_true,decide_false]
 ·rw[decide_eq_false (show ¬48≤n by omega)]
  refine Spec.go [] Tryz.func145 rfl rfl (by kernel_rfl) fun C _=>?_
  try simp(disch:=omega) only[go_sem,ξ,ζ,c,decide_false]
theorem tl_loop (s:ByteArray):∀(n i:Nat) (r:List UInt8),s.size - i=n→(ByteArray.toList.loop s i r).length=n+r.length
 | 0,i,r,h=>by
  unfold ByteArray.toList.loop
  rw[if_neg (by omega)]
  simp
 | n+1,i,r,h=>by
  unfold ByteArray.toList.loop
  rw[if_pos (by omega),tl_loop s n (i+1) _ (by omega)]
  simp;omega
theorem tl_len (s:ByteArray):s.toList.length=s.size:=by
 have:=tl_loop s s.size 0 [] rfl
 simp at this
 exact this
theorem size_ne {s:ByteArray}:(s.toList == (⟨#[]⟩:ByteArray).toList)=decide (s.size=0):=by
 have e:(⟨#[]⟩:ByteArray).toList=[]:=ByteArray.toList_empty
 have:=tl_len s
 rw[e]
 cases h:s.toList with
 |nil=>rw[h] at this;simp at this;rw[decide_eq_true (by omega)];rfl
 |cons a l=>rw[h] at this;simp at this;rw[decide_eq_false (by omega)];rfl
theorem Word_spec {h:PH} {s:ByteArray} (hs:s.size≤8):Spec mach 83 #[.string s] h (fun v _=>∃i:Nat,v=.int .i64 i∧i≤s.size∧(i=s.size∧0 < s.size↔wordB s=true)) NP:=by
 rcases Nat.eq_zero_or_pos s.size with h0 |h0
 ·have hz:(s.toList == (⟨#[]⟩:ByteArray).toList)=true:=by rw[size_ne,decide_eq_true (h0)]
  have:wordB s=false:=by unfold wordB;rw[decide_eq_false (show ¬0 < s.size by omega)];simp
  refine Spec.go [] Tryz.func83 rfl rfl (by kernel_rfl) fun C _=>?_
  try simp(disch:=omega) only[go_sem,ξ,ζ,hz]
  all_goals exact⟨0,rfl,qBh _,by rw[this];exact⟨fun k=>absurd k.2 (by omega),fun k=>by cases k⟩⟩
 ·obtain⟨b0,hb0,e0⟩:=byt_at h0
  have hz:(s.toList == (⟨#[]⟩:ByteArray).toList)=false:=by rw[size_ne,decide_eq_false (by omega)]
  cases hl:isL b0.toNat with
  | false=>
   have:wordB s=false:=by unfold wordB;rw[e0,hl];simp
   refine Spec.go [] Tryz.func83 rfl rfl (by kernel_rfl) fun C _=>?_
   try simp(disch:=omega) only[go_sem,ξ,ζ,hz]
   refine⟨by decide,_,hb0,?_⟩
   try simp(disch:=omega) only[go_sem,ξ,ζ]
   refine caN (by exact Letter_spec) ?_;rintro v1 h1 s1 rfl
   try simp(disch:=omega) only[go_sem,ξ,ζ,hl]
   exact⟨0,rfl,qBh _,by simp[this];omega⟩
  | true=>
   have fin:∀i:Nat,i≤s.size→(i < s.size→isW (byt s i)=false)→(∀j,j < i→isW (byt s j)=true)→(i=s.size∧0 < s.size↔wordB s=true):=fun i h1 h2 h3=>by
    unfold wordB
    rw[decide_eq_true h0,e0,hl]
    simp only[Bool.true_and,qBd,List.mem_range]
    constructor
    ·rintro⟨rfl,_⟩
     exact h3
    ·intro k
     refine⟨?_,h0⟩
     refine Nat.le_antisymm h1 (Nat.le_of_not_lt fun c=>?_)
     have:=h2 c
     rw[k i c] at this
     cases this
   have w0:isW (byt s 0)=true:=by unfold isW;rw[e0,hl];rfl
   refine Spec.go [] Tryz.func83 rfl rfl (by kernel_rfl) fun C _=>?_
   try simp(disch:=omega) only[go_sem,ξ,ζ,hz]
   refine⟨by decide,_,hb0,?_⟩
   try simp(disch:=omega) only[go_sem,ξ,ζ]
   refine caN (by exact Letter_spec) ?_;rintro v1 h1 s1 rfl
   try simp(disch:=omega) only[go_sem,ξ,ζ,hl]
   refine lp [] (fun i:Nat=>⟨[(0,.v (.string s)),(3,.v (.int .i64 i))],[]⟩) (fun i h'=>Le h1 h'∧1≤i∧i≤s.size∧∀j,j < i→isW (byt s j)=true) (fun i=>s.size - i) 1 ?_ ⟨inferInstance,by decide,h0,fun j hj=>(show j=0 by omega)▸w0⟩ (by kernel_rfl) ?_
   ·try simp(disch:=omega) only[go_sem,ξ,ζ]
    all_goals rfl
   rintro i h2 ⟨le2,hi1,hi,hj⟩
   by_cases hl2:(i:Int) < s.size
   ·obtain⟨b,hb,eb⟩:=byt_at (s:=s) (i:=i) (by omega)
    try simp(disch:=omega) only[go_sem,ξ,ζ,hl2,decide_true]
    refine And.intro (by omega) (Exists.intro _ (And.intro hb ?_))
    try simp(disch:=omega) only[go_sem,ξ,ζ]
    refine caN (by exact Letter_spec) ?_;rintro v3 h3 s3 rfl
    try simp(disch:=omega) only[go_sem,ξ,ζ]
    cases hL:isL b.toNat with
    | true=>
     try simp(disch:=omega) only[go_sem,ξ,ζ,hL]
     dsimp only[lpE];refine⟨i+1,?_,⟨inferInstance,by omega,by omega,fun j k=>?_⟩,by omega⟩
     ·try simp(disch:=omega) only[go_sem,ξ,ζ]
      all_goals rfl
     ·rcases qBj j i with g |g
      ·exact hj j g
      ·rw[show j=i by omega,eb];unfold isW;rw[hL];rfl
    | false=>
     try simp(disch:=omega) only[go_sem,ξ,ζ,hL]
     refine And.intro (by omega) (Exists.intro _ (And.intro hb ?_))
     try simp(disch:=omega) only[go_sem,ξ,ζ]
     refine caN (by exact Digit_spec) ?_;rintro v4 h4 s4 rfl
     try simp(disch:=omega) only[go_sem,ξ,ζ]
     cases hD:(decide (48≤b.toNat) && decide (b.toNat≤57)) with
     | true=>
      try simp(disch:=omega) only[go_sem,ξ,ζ,hD]
      dsimp only[lpE];refine⟨i+1,?_,⟨inferInstance,by omega,by omega,fun j k=>?_⟩,by omega⟩
      ·try simp(disch:=omega) only[go_sem,ξ,ζ]
       all_goals rfl
      ·rcases qBj j i with g |g
       ·exact hj j g
       ·rw[show j=i by omega,eb];unfold isW;rw[hL,hD];rfl
     | false=>
      try simp(disch:=omega) only[go_sem,ξ,ζ,hD]
      (exact⟨_,rfl,hi,fin _ hi (fun _=>by rw[eb];unfold isW;rw[hL,hD];rfl) hj⟩)
   ·try simp(disch:=omega) only[go_sem,ξ,ζ,hl2,decide_false]
    obtain rfl:i=s.size:=by omega
    exact⟨_,rfl,η _,fin _ (η _) (fun c=>absurd c (Nat.lt_irrefl _)) hj⟩
theorem Reserved_spec {h:PH} {s:ByteArray}:Spec mach 84 #[.string s] h (fun v _=>v=.bool (resB s)) NP:=by
 rw[resB_eq]
 unfold res11
 simp only[List.any_cons,List.any_nil,Bool.or_false,Bool.or_assoc]
 have B:=fun w:ByteArray=>Bool.eq_false_or_eq_true (s.toList == w.toList)
 refine Spec.go [] Tryz.func84 rfl rfl (by kernel_rfl) fun C _=>?_
 try simp(disch:=omega) only[go_sem,ξ,ζ]
 rcases B (⟨#[112,105]⟩:ByteArray) with e |e
 ·try simp(disch:=omega) only[go_sem,ξ,ζ,e,Bool.true_or]
 try simp(disch:=omega) only[go_sem,ξ,ζ,e,Bool.false_or]
 rcases B (⟨#[97,98,115]⟩:ByteArray) with e |e
 ·try simp(disch:=omega) only[go_sem,ξ,ζ,e,Bool.true_or]
 try simp(disch:=omega) only[go_sem,ξ,ζ,e,Bool.false_or]
 rcases B (⟨#[109,105,110]⟩:ByteArray) with e |e
 ·try simp(disch:=omega) only[go_sem,ξ,ζ,e,Bool.true_or]
 try simp(disch:=omega) only[go_sem,ξ,ζ,e,Bool.false_or]
 rcases B (⟨#[109,97,120]⟩:ByteArray) with e |e
 ·try simp(disch:=omega) only[go_sem,ξ,ζ,e,Bool.true_or]
 try simp(disch:=omega) only[go_sem,ξ,ζ,e,Bool.false_or]
 rcases B (⟨#[114,111,111,116]⟩:ByteArray) with e |e
 ·try simp(disch:=omega) only[go_sem,ξ,ζ,e,Bool.true_or]
 try simp(disch:=omega) only[go_sem,ξ,ζ,e,Bool.false_or]
 rcases B (⟨#[115,113,114,116]⟩:ByteArray) with e |e
 ·try simp(disch:=omega) only[go_sem,ξ,ζ,e,Bool.true_or]
 try simp(disch:=omega) only[go_sem,ξ,ζ,e,Bool.false_or]
 rcases B (⟨#[105,102]⟩:ByteArray) with e |e
 ·try simp(disch:=omega) only[go_sem,ξ,ζ,e,Bool.true_or]
 try simp(disch:=omega) only[go_sem,ξ,ζ,e,Bool.false_or]
 rcases B (⟨#[105,110,102]⟩:ByteArray) with e |e
 ·try simp(disch:=omega) only[go_sem,ξ,ζ,e,Bool.true_or]
 try simp(disch:=omega) only[go_sem,ξ,ζ,e,Bool.false_or]
 rcases B (⟨#[102,111,114]⟩:ByteArray) with e |e
 ·try simp(disch:=omega) only[go_sem,ξ,ζ,e,Bool.true_or]
 try simp(disch:=omega) only[go_sem,ξ,ζ,e,Bool.false_or]
 rcases B (⟨#[105,110]⟩:ByteArray) with e |e
 ·try simp(disch:=omega) only[go_sem,ξ,ζ,e,Bool.true_or]
 try simp(disch:=omega) only[go_sem,ξ,ζ,e,Bool.false_or]
 rcases B (⟨#[119,104,101,114,101]⟩:ByteArray) with e |e
 ·try simp(disch:=omega) only[go_sem,ξ,ζ,e,Bool.true_or]
 try simp(disch:=omega) only[go_sem,ξ,ζ,e,Bool.false_or]
 refine caN (by exact qw) ?_;rintro v1 h1 s1 ⟨n,b,rfl,hf⟩
 try simp(disch:=omega) only[go_sem,ξ,ζ,hf.any]
theorem SIsName_spec {h:PH} {s:ByteArray}:Spec mach 44 #[.string s] h (fun v _=>v=.bool (nameB s)) NP:=by
 unfold nameB
 by_cases h8:(s.size:Int)≤8
 ·rw[decide_eq_true (show s.size≤8 by omega)]
  refine Spec.go [] Tryz.func44 rfl rfl (by kernel_rfl) fun C _=>?_
  try simp(disch:=omega) only[go_sem,ξ,ζ,h8,decide_true]
  refine caN (by exact Word_spec (show s.size≤8 by omega)) ?_;rintro v1 h1 s1 ⟨i,rfl,hi,hw⟩
  try simp(disch:=omega) only[go_sem,ξ,ζ]
  cases hB:wordB s with
  | false=>
   by_cases hn:(i:Int)=s.size
   ·have hz:s.size=0:=by
     refine Nat.eq_zero_of_not_pos fun c=>?_
     rw[hw.1 ⟨by omega,c⟩] at hB
     cases hB
    have hz:(s.toList == (⟨#[]⟩:ByteArray).toList)=true:=by rw[size_ne,decide_eq_true hz]
    try simp(disch:=omega) only[go_sem,ξ,ζ,hn,hz,beq_self_eq_true]
    all_goals rfl
   ·have hn:((i:Int) == s.size)=false:=by simpa using hn
    try simp(disch:=omega) only[go_sem,ξ,ζ,hn]
    all_goals rfl
  | true=>
   obtain⟨h1,h2⟩:=hw.2 hB
   have hn:((i:Int) == s.size)=true:=by simp[h1]
   have hz:(s.toList == (⟨#[]⟩:ByteArray).toList)=false:=by rw[size_ne,decide_eq_false (by omega)]
   try simp(disch:=omega) only[go_sem,ξ,ζ,hn,hz]
   refine caN (by exact Reserved_spec) ?_;rintro v2 h3 s2 rfl
   try simp(disch:=omega) only[go_sem,ξ,ζ]
 ·rw[decide_eq_false (show ¬s.size≤8 by omega)]
  refine Spec.go [] Tryz.func44 rfl rfl (by kernel_rfl) fun C _=>?_
  try simp(disch:=omega) only[go_sem,ξ,ζ,h8,decide_false]
  all_goals rfl
theorem IsName_spec {h:PH} {s:ByteArray}:Spec mach 18 #[.string s] h (fun v _=>v=.bool (nameB s)) NP:=by
 refine Spec.go [] Tryz.func18 rfl rfl (by kernel_rfl) fun C _=>?_
 try simp(disch:=omega) only[go_sem,ξ,ζ]
 refine caN (by exact SIsName_spec) ?_;rintro v1 h1 s1 rfl
 try simp(disch:=omega) only[go_sem,ξ,ζ]
def reswV:List Value:=reswL.map Value.string
theorem resw_at {h:PH} {b:Nat} (hb:h b=some reswV.toArray) {i:Nat} {w:ByteArray} (hi:reswL[i]?=some w):h.at ⟨b,i,none⟩=some (.string w):=by
 have:(reswV.toArray)[i]?=some (.string w):=by
  unfold reswV
  simp[hi]
 simpa[PH.at,hb] using this
theorem RReserved_spec {h:PH}:Spec mach 130 #[] h (fun v h'=>∃b,v=.slice (some ⟨b,0,none⟩) 19 19∧h' b=some reswV.toArray) NP:=by
 refine Spec.go [(1,.t (.s [0] (.p 0 (.s [1] .d))))] Tryz.func130 rfl rfl (by kernel_rfl) fun C _=>?_
 try simp(disch:=omega) only[go_sem,ξ,ζ]
 intro b h1 st1 hb
 try simp(disch:=omega) only[go_sem,ξ,ζ]
 have hb:=hb (by simp)
 try simp(disch:=omega) only[go_sem,ξ,ζ]
 exact⟨_,rfl,hb⟩
theorem RWord_spec {h:PH} {s:ByteArray} (hs:s.size≤8):Spec mach 129 #[.string s] h (fun v _=>v=.bool (wordB s)) NP:=by
  refine Spec.go [] Tryz.func129 rfl rfl (by kernel_rfl) fun C _=>?_
  try simp(disch:=omega) only[go_sem,ξ,ζ]
  refine lp [] (fun i:Nat=>⟨[(0,.v (.string s)),(3,.v (.int .i64 i))],[]⟩) (fun i h'=>Le h h'∧i≤s.size∧(0 < i→isL (byt s 0)=true)∧∀j,j < i→isW (byt s j)=true) (fun i=>s.size - i) 0 ?_ ⟨inferInstance,qBh _,fun k=>absurd k (by decide),fun j hj=>absurd hj (by omega)⟩ (by kernel_rfl) ?_
  · try simp(disch:=omega) only[go_sem,ξ,ζ]
    all_goals rfl
  rintro i h2 ⟨le2,hi,hi0,hj⟩
  by_cases hl2:(i:Int) < s.size
  · obtain⟨b,hb,eb⟩:=byt_at (s:=s) (i:=i) (by omega)
    have no:isW b.toNat=false→wordB s=false:=fun k=>by
      unfold wordB
      rw[Bool.and_eq_false_iff]
      right
      refine List.all_eq_false.2 ⟨i,List.mem_range.2 (by omega),?_⟩
      rw[eb,k];decide
    try simp(disch:=omega) only[go_sem,ξ,ζ,hl2,decide_true]
    have noL:(i:Int)=0→isL b.toNat=false→wordB s=false:=fun k l=>by
      unfold wordB
      obtain rfl:i=0:=by omega
      rw[eb,l];simp
    refine And.intro (by omega) (Exists.intro _ (And.intro hb ?_))
    try simp(disch:=omega) only[go_sem,ξ,ζ]
    by_cases c1:(97:Int)≤b.toNat
    · try simp(disch:=omega) only[go_sem,ξ,ζ,c1,decide_true]
      refine And.intro (by omega) (Exists.intro _ (And.intro hb ?_))
      try simp(disch:=omega) only[go_sem,ξ,ζ]
      by_cases c2:(b.toNat:Int)≤122
      · have L:isL b.toNat=true:=by unfold isL;rw[decide_eq_true (show 97≤b.toNat by omega),decide_eq_true (show b.toNat≤122 by omega)];rfl
        have W:isW b.toNat=true:=by unfold isW;rw[L];rfl
        try simp(disch:=omega) only[go_sem,ξ,ζ,c2,decide_true]
        dsimp only[lpE];refine⟨i+1,?_,⟨inferInstance,by omega,fun _=>?_,fun j k=>?_⟩,by omega⟩
        · try simp(disch:=omega) only[go_sem,ξ,ζ]
          all_goals rfl
        · by_cases g:i=0
          · subst g;rw[eb];exact L
          · exact hi0 (by omega)
        · rcases qBj j i with g |g
          · exact hj j g
          · rw[show j=i by omega,eb];exact W
      · have L:isL b.toNat=false:=by unfold isL;rw[decide_eq_false (show ¬b.toNat≤122 by omega),Bool.and_false]
        have W:isW b.toNat=false:=by unfold isW;rw[L,decide_eq_false (show ¬b.toNat≤57 by omega),Bool.and_false];rfl
        by_cases i0:(i:Int)=0
        · try simp(disch:=omega) only[go_sem,ξ,ζ,c2,i0,decide_false,beq_self_eq_true]
          rw[noL i0 L]
        · have i0:((i:Int) == 0)=false:=by simpa using i0
          try simp(disch:=omega) only[go_sem,ξ,ζ,c2,i0,decide_false]
          refine And.intro (by omega) (Exists.intro _ (And.intro hb ?_))
          try simp(disch:=omega) only[go_sem,ξ,ζ,show ¬(b.toNat:Int) < 48 by omega,decide_false]
          refine And.intro (by omega) (Exists.intro _ (And.intro hb ?_))
          try simp(disch:=omega) only[go_sem,ξ,ζ,show(b.toNat:Int) > 57 by omega,decide_true]
          rw[no W]
    · have L:isL b.toNat=false:=by unfold isL;rw[decide_eq_false (show ¬97≤b.toNat by omega),Bool.false_and]
      by_cases i0:(i:Int)=0
      · try simp(disch:=omega) only[go_sem,ξ,ζ,c1,i0,decide_false,beq_self_eq_true]
        rw[noL i0 L]
      · have i0':((i:Int) == 0)=false:=by simpa using i0
        try simp(disch:=omega) only[go_sem,ξ,ζ,c1,i0',decide_false]
        refine And.intro (by omega) (Exists.intro _ (And.intro hb ?_))
        try simp(disch:=omega) only[go_sem,ξ,ζ]
        by_cases c3:(b.toNat:Int) < 48
        · have W:isW b.toNat=false:=by unfold isW;rw[L,decide_eq_false (show ¬48≤b.toNat by omega)];rfl
          try simp(disch:=omega) only[go_sem,ξ,ζ,c3,decide_true]
          rw[no W]
        · try simp(disch:=omega) only[go_sem,ξ,ζ,c3,decide_false]
          refine And.intro (by omega) (Exists.intro _ (And.intro hb ?_))
          try simp(disch:=omega) only[go_sem,ξ,ζ]
          by_cases c4:(b.toNat:Int) > 57
          · have W:isW b.toNat=false:=by unfold isW;rw[L,decide_eq_false (show ¬b.toNat≤57 by omega),Bool.and_false];rfl
            try simp(disch:=omega) only[go_sem,ξ,ζ,c4,decide_true]
            rw[no W]
          · have W:isW b.toNat=true:=by unfold isW;rw[decide_eq_true (show 48≤b.toNat by omega),decide_eq_true (show b.toNat≤57 by omega)];simp
            try simp(disch:=omega) only[go_sem,ξ,ζ,c4,decide_false]
            dsimp only[lpE];refine⟨i+1,?_,⟨inferInstance,by omega,fun _=>?_,fun j k=>?_⟩,by omega⟩
            · try simp(disch:=omega) only[go_sem,ξ,ζ]
              all_goals rfl
            · by_cases g:i=0
              · exact absurd g (by omega)
              · exact hi0 (by omega)
            · rcases qBj j i with g |g
              · exact hj j g
              · rw[show j=i by omega,eb];exact W
  · have e:i=s.size:=by omega
    have eW:wordB s=decide ((s.size:Int) > 0):=by
      by_cases z:0 < s.size
      · rw[decide_eq_true (show(s.size:Int) > 0 by omega)]
        unfold wordB
        rw[decide_eq_true z,hi0 (by omega),Bool.true_and,Bool.true_and]
        exact qBd.2 fun j k=>hj j (by have:=List.mem_range.1 k;omega)
      · rw[decide_eq_false (show ¬(s.size:Int) > 0 by omega)]
        unfold wordB
        rw[decide_eq_false z];rfl
    try simp(disch:=omega) only[go_sem,ξ,ζ,hl2,decide_false]
    rw[eW]
theorem RIsName_spec {h:PH} {s:ByteArray}:Spec mach 68 #[.string s] h (fun v _=>v=.bool (nameB s)) NP:=by
 unfold nameB
 by_cases h8:(s.size:Int) > 8
 ·rw[decide_eq_false (show ¬s.size≤8 by omega)]
  refine Spec.go [] Tryz.func68 rfl rfl (by kernel_rfl) fun C _=>?_
  try simp(disch:=omega) only[go_sem,ξ,ζ,h8,decide_true]
  all_goals rfl
 ·rw[decide_eq_true (show s.size≤8 by omega)]
  cases hB:wordB s with
  | false=>
   refine Spec.go [] Tryz.func68 rfl rfl (by kernel_rfl) fun C _=>?_
   try simp(disch:=omega) only[go_sem,ξ,ζ,h8,decide_false]
   refine caN (by exact RWord_spec (show s.size≤8 by omega)) ?_;rintro v1 h1 s1 rfl
   try simp(disch:=omega) only[go_sem,ξ,ζ,hB]
   all_goals rfl
  | true=>
   have any:∀i:Nat,(∀j w,j < i→reswL[j]?=some w→(w.toList == s.toList)=false)→19≤i→resB s=false:=fun i k g=>by
    refine List.any_eq_false.2 fun w hw=>?_
    obtain⟨j,hj⟩:=List.getElem?_of_mem hw
    have l:reswL.length=19:=by decide
    have:=(List.getElem?_eq_some_iff.1 hj).1
    rw[k j w (by omega) hj];decide
   refine Spec.go [] Tryz.func68 rfl rfl (by kernel_rfl) fun C _=>?_
   try simp(disch:=omega) only[go_sem,ξ,ζ,h8,decide_false]
   refine caN (by exact RWord_spec (show s.size≤8 by omega)) ?_;rintro v1 h1 s1 rfl
   try simp(disch:=omega) only[go_sem,ξ,ζ,hB]
   refine caN (by exact RReserved_spec) ?_;rintro v2 h2 s2 ⟨b,rfl,hb⟩
   try simp(disch:=omega) only[go_sem,ξ,ζ]
   refine lp [] (fun i:Nat=>⟨[(0,.v (.string s)),(3,.v (.slice (some ⟨b,0,none⟩) 19 19)),(4,.v (.int .i64 i))],[]⟩) (fun i h'=>Le h2 h'∧i≤19∧∀j w,j < i→reswL[j]?=some w→(w.toList == s.toList)=false) (fun i=>19 - i) 0 ?_ ⟨inferInstance,qBh _,fun j w hj=>absurd hj (by omega)⟩ (by kernel_rfl) ?_
   ·try simp(disch:=omega) only[go_sem,ξ,ζ]
    all_goals rfl
   rintro i h3 ⟨le3,hi,hj⟩
   have hb3:h3 b=some reswV.toArray:=le3.sub _ _ hb
   by_cases hl:(i:Int) < 19
   ·obtain⟨w,hw⟩:∃w,reswL[i]?=some w:=by
     have l:reswL.length=19:=by decide
     exact⟨_,List.getElem?_eq_getElem (by omega)⟩
    try simp(disch:=omega) only[go_sem,ξ,ζ,hl,decide_true]
    refine aE (resw_at hb3 hw) ?_
    try simp(disch:=omega) only[go_sem,ξ,ζ]
    cases e:(w.toList == s.toList) with
    | true=>
     have eR:resB s=true:=List.any_eq_true.2 ⟨w,List.mem_of_getElem? hw,e⟩
     rw[eR]
     try simp(disch:=omega) only[go_sem,ξ,ζ,e]
     all_goals rfl
    | false=>
     try simp(disch:=omega) only[go_sem,ξ,ζ,e]
     dsimp only[lpE];refine⟨i+1,?_,⟨inferInstance,by omega,fun j u k hu=>?_⟩,by omega⟩
     ·try simp(disch:=omega) only[go_sem,ξ,ζ]
      all_goals rfl
     ·rcases qBj j i with g |g
      ·exact hj j u g hu
      ·obtain rfl:j=i:=by omega
       rw[hw] at hu
       cases hu
       exact e
   ·rw[any i hj (by omega)]
    try simp(disch:=omega) only[go_sem,ξ,ζ,hl,decide_false]
    all_goals rfl
open Go.RowKit (Below)
theorem nh {M:Mach} {n:Nat} {C:Ctx} {c:Code} {Q:Exit→AS→PH→Prop} {E:List PanicEntry→PH→Prop} {S:AS} {h:PH} {β:Nat→Nat} {a:Act} {w:World} (g:G M C n S h β a w) (hk:AWP M n C c Q E S h):c.wp M.P (LQ M n C Q E) a w:=hk β a w g
theorem box_get {S:AS} {i:Nat} (h:2≤S.bx.length) (hi:i < 2:=by decide):S.bx[i]?=some (S.box i):=by
 have:i < S.bx.length:=by omega
 simp[AS.box,this]
theorem tL {C:Ctx} {h:PH} {w:World} {β:Nat→Nat} {x y:List Value} (h0:BoxAt C h w (β 0) x) (h1:BoxAt C h w (β 1) y) (hne:β 0≠β 1):Rows C h w β [x,y]:=by
 refine⟨fun i cs hi _=>?_,fun i j ci cj hi hj _ _ hij=>?_⟩
 ·match i,hi with
  |0,hi=>cases hi;exact h0
  |1,hi=>cases hi;exact h1
 ·match i,j,hi,hj with
  |0,0,_,_=>rfl
  |1,1,_,_=>rfl
  |0,1,_,_=>exact(hne hij).elim
  |1,0,_,_=>exact(hne hij.symm).elim
theorem idle_Iv (p q:Value) (w:World):CallsD mach.P 255 #[p,q] .returning w fun e u' w'=>e=.returned (.tuple #[])∧u'=.returning∧w'=w:=by
 refine callsD_of_wpS Tryz.func255 rfl fun c₀ cs hu=>?_
 apply wpS_seq
 apply wpS_region
 simp[wpOpsS,go_sem,recoverD,hu,Exit.thenS]
 have hnil:∀w:World,(binOp BinOp.eql 20 .nilIface .nilIface).run mach.P w=.ok (.bool true) w:=fun _=>by kernel_rfl
 refine wpS_of_wp (wp_block (wp_seq_k fun K hK=>?_))
 apply wp_region
 simp[wpOps,go_sem,hnil,Oper.upon,Exit.then]
 refine .inl (hK _ _ ?_)
 clear hK K
 refine wp_cond_true ?_ ?_
 ·simp[Act.eval]
 apply wp_region
 simp[wpOps,go_sem]
 cases c₀
 simp_all [bodyPostS,results,Tryz.results255,Exit.inBlock]
theorem I3 {C:Ctx} {h:PH} {β:Nat→Nat} {w:World} {rv re:List Value} {e:Int} (hf:Fine mach C h w) (hr:Rows C h w β [rv,re]) (h8:rv.length=8) (h1:re.length=1):
    CallsD mach.P 255 #[.pointer (some ⟨β 0,0,none⟩),.pointer (some ⟨β 1,0,none⟩)] (.panicking [{v:=.iface 133 (.agg #[.int .i64 e]),recovered:=false}]) w fun en u' w'=>
      en=.returned (.tuple #[])∧u'=.panicking [{v:=.iface 133 (.agg #[.int .i64 e]),recovered:=true}]∧
      Fine mach C h w'∧Rows C h w' β [[.bool false,.slice none 0 0,.slice none 0 0,.bool false,.slice none 0 0,.slice none 0 0,.bool false,.bool false],[.int .i64 e]]:=by
  have hnil:∀w:World,(binOp BinOp.eql 20 (.iface 133 (.agg #[.int .i64 e])) .nilIface).run mach.P w=.ok (.bool false) w:=fun _=>by kernel_rfl
  have has:∀w:World,(Instr.typeAssert (.iface 133 (.agg #[.int .i64 e])) 20 133 true).run mach.P w=.ok (.tuple #[.agg #[.int .i64 e],.bool true]) w:=fun _=>by kernel_rfl
  refine callsD_of_wpS Tryz.func255 rfl fun c₀ cs hu=>?_
  apply wpS_seq
  apply wpS_region
  simp[wpOpsS,go_sem,recoverD,hu,Exit.thenS]
  refine wpS_of_wp (wp_block (wp_seq_k fun K hK=>?_))
  apply wp_region
  simp[wpOps,go_sem,hnil,Oper.upon,Exit.then]
  refine .inl (hK _ _ ?_)
  clear hK K
  refine wp_cond_false ?_ ?_
  · simp[Act.eval]
  refine wp_seq_k fun K hK=>?_
  apply wp_region
  simp[wpOps,go_sem,has,Oper.upon,Exit.then]
  repeat refine Or.inl ?_
  refine hK _ _ ?_
  clear hK K
  refine wp_cond_true ?_ ?_
  · simp[Act.eval]
  match rv,re,h8,h1 with
  |[r0,r1,r2,r3,r4,r5,r6,r7],[q0],_,_=>
  refine wp_mono (nh (M:=mach) (n:=15) (C:=⟨C.w0,C.h0,[β 0,β 1],[]⟩) (S:=⟨[(0,.p 0 0),(1,.p 1 0),(11,.v (.agg #[.int .i64 e]))],[[r0,r1,r2,r3,r4,r5,r6,r7],[q0]]⟩) (h:=h) (β:=β) (E:=NP)
    (Q:=fun en S h'=>en=.normal∧h'=h∧2≤S.bx.length∧S.box 0=[.bool false,.slice none 0 0,.slice none 0 0,.bool false,.slice none 0 0,.slice none 0 0,.bool false,.bool false]∧S.box 1=[.int .i64 e]) ?_ ?_) ?_
  · refine⟨by simp,rfl,hf.re rfl rfl,fun i cs hi hc=>(hr.at_ i cs hi hc).re rfl,hr.inj,fun t=>?_,fun t i hi=>?_,by simp,fun i hi=>?_⟩
    · simp only[lk]
      by_cases h0:t=0
      · subst h0;exact .inr rfl
      · by_cases h1:t=1
        · subst h1;exact .inr rfl
        · by_cases h2:t=11
          · subst h2;exact .inr rfl
          · refine .inl ?_
            have e0:(0 == t)=false:=by simp;omega
            have e1:(1 == t)=false:=by simp;omega
            have e2:(11 == t)=false:=by simp;omega
            simp[e0,e1,e2]
    · simp only[lk] at hi
      by_cases h0:t=0
      · subst h0;simp[AV.ix] at hi;subst hi;simp
      · by_cases h1:t=1
        · subst h1;simp[AV.ix] at hi;subst hi;simp
        · have e0:(0 == t)=false:=by simp;omega
          have e1:(1 == t)=false:=by simp;omega
          rw[e0,e1] at hi
          cases hx:(11 == t)<;>rw[hx] at hi<;>cases hi
    · simp only[List.length_cons,List.length_nil] at hi
      match i,hi with
      |0,_=>rfl
      |1,_=>rfl
  · repeat (first |(refine rg rfl rfl (fun K hK=>?_);(repeat (first |(refine wo rfl (fun k hk=>?_);simp(disch:=omega) only[go_sem,ξ,ζ];apply hk;clear hk k) |refine wkt rfl ?_));(try refine wk0 ?_);apply hK;clear hK K;(try dsimp only[ag,qs,qb])) |((first |refine ae ?_ |refine ac ?_);simp(disch:=decide) only[qs,qb,if_true,if_false,reduceIte]) |refine ah rfl (fun K hK=>?_) |refine ct rfl ?_ |((first |refine hK _ _ ?_ |(clear hK;refine hK _ _ ?_) |(clear hK;clear hK;refine hK _ _ ?_));clear hK;(try clear K)))
    refine pD (.alt 0 (.alt 1 (.alt 2 (.alt 3 (.alt 4 .done .no) .no) (.alt 3 (.alt 2 (.alt 4 .done .no) .no) .no)) (.alt 3 (.alt 1 (.alt 2 (.alt 4 .done .no) .no) .no) .no)) (.alt 1 (.alt 0 (.alt 2 (.alt 3 (.alt 4 .done .no) .no) (.alt 3 (.alt 2 (.alt 4 .done .no) .no) .no)) (.alt 2 (.alt 0 (.alt 3 (.alt 4 .done .no) .no) .no) .no)) .no)) (by decide+kernel) rfl (fun K hK=>?_)
    have fin:∀S h',h'=h→S.box 0=[.bool false,.slice none 0 0,.slice none 0 0,.bool false,.slice none 0 0,.slice none 0 0,.bool false,.bool false]→S.box 1=[.int .i64 e]→2≤S.bx.length→K S h':=fun S h' e0 e1 e2 e3=>hK _ _ ⟨rfl,e0,e3,e1,e2⟩
    clear hK
    repeat' (first |exact wt_no |exact ak (fin _ _ rfl rfl rfl (by simp)) |refine aj ?_ ?_ |(refine wk (fun k hk=>?_);simp(disch:=omega) only[go_sem,ξ,ζ];apply hk;clear hk k;with_reducible refine wk0 ?_))
  · intro en a' w' hq
    cases en with
    | normal=>
      obtain⟨S',h',β',g',_,rfl,hl,hb0,hb1⟩:=hq
      have e0:β' 0=β 0:=g'.pin.2 0 (by simp)
      have e1:β' 1=β 1:=g'.pin.2 1 (by simp)
      have x0:=g'.boxes 0 _ (box_get hl) (by rw[hb0];simp)
      have x1:=g'.boxes 1 _ (box_get hl) (by rw[hb1];simp)
      have ne:=g'.inj 0 1 _ _ (box_get hl) (box_get hl) (by rw[hb0];simp) (by rw[hb1];simp)
      rw[e0,hb0] at x0
      rw[e1,hb1] at x1
      rw[e0,e1] at ne
      cases c₀
      simp only[Exit.inBlock,bodyPostS]
      refine⟨g'.defers,_,rfl,_,results_none rfl _ _ _,rfl,rfl,g'.fine.re rfl rfl,tL (x0.re rfl) (x1.re rfl) (fun e=>by simpa using ne e)⟩
    |panic ch=>obtain⟨_,_,_,hq⟩:=hq;exact(hq:False).elim
    |outgrown=>exact(hq:False).elim
    |_=>obtain⟨_,_,_,_,hq,_⟩:=hq;cases hq
theorem G.start {M:Mach} {n:Nat} {args:List Value} {h:PH} {w:World} (pin:List Nat) (hp:pin=[]) (ha:args.length≤n) (hw:Has w h) (hg:Sub M.gl h):
  G M ⟨w,h,pin,[]⟩ n ⟨argS 0 args,[]⟩ h (fun _=>0) {tmps:=args.toArray ++Array.replicate (n - args.toArray.size) undef,defers:=[]} w:=by
 subst hp
 refine⟨by simp;omega,rfl,⟨Below.refl _ _,hw,Sub.refl h,New.refl _ h,hg⟩,fun i cs hi=>by simp at hi,fun i j ci cj hi=>by simp at hi,fun t=>?_,fun t i hi=>?_,qBh _,fun i hi=>by cases hi⟩
 ·rw[qO]
  split
  ·rename_i hc
   refine .inr ?_
   simp only[Nat.sub_zero,List.length_cons] at hc ⊢
   have hlt:t < args.toArray.size:=by simpa using hc.2
   simp only[cv,Array.getD_eq_getD_getElem?,Array.getElem?_append_left hlt]
   simp[hc.2]
  ·exact .inl rfl
 ·rw[qO] at hi
  split at hi<;>cases hi
theorem G.re {M:Mach} {C C':Ctx} {n:Nat} {S:AS} {h:PH} {β:Nat→Nat} {a:Act} {w:World} (g:G M C n S h β a w) (h1:C'.w0=C.w0) (h2:C'.h0=C.h0) (ds:List Deferred) (hd:C'.df=ds) (hp:C'.pin.length≤S.bx.length∧∀i,i < C'.pin.length→β i=C'.pin.getD i 0):
  G M C' n S h β {a with defers:=ds} w:=
 ⟨g.size,hd.symm,g.fine.re h1 h2,fun i cs hi hc=>(g.boxes i cs hi hc).re h1,g.inj,g.slots,g.wf,hp⟩
section
variable {P:Program} {ops:Array Oper} {Q:Exit→Act→World→Prop}
theorem RWc_r {i:Nat} {o:Oper} {c:List Nat} {a:Act} {w:World} (v:Value) (ho:ops[i]?=some o) (hc:cls o.op=0) (hg:o.guard=none) (hr:∀w',Below w.heap.size w w'→(execOp a.eval o).run P w'=.ok (.value v) w') (hk:RWc P ops Q c (a.put o.dst v) w):RWc P ops Q (i :: c) a w:=
 (fE ho hc).2 ⟨v,.inl ⟨by simp[Region.wanted,hg],hr⟩,hk⟩
theorem RWc_i {i:Nat} {o:Oper} {c:List Nat} {a:Act} {w:World} (ho:ops[i]?=some o) (hc:cls o.op≠0) (hg:o.guard=none) (hk:o.wp P a w (fun a' w'=>(cls o.op=2∨Below w.heap.size w w')∧RWc P ops Q c a' w') Q):RWc P ops Q (i :: c) a w:=by
 rw[jP ho hc,if_pos (by simp[Region.wanted,hg])]
 exact hk
theorem B9 {o:Oper} {a:Act} {w:World} {next:Act→World→Prop} (d:Deferred) (h:(execOp a.eval o).run P w=.ok (.defer d) w) (hk:next ({a with defers:=d :: a.defers}.put o.dst undef) w):o.wp P a w next Q:=by
 unfold Oper.wp
 rw[h]
 exact hk
theorem tZ {o:Oper} {a:Act} {w:World} {next:Act→World→Prop} {f:FuncId} {args:Array Value} (h:(execOp a.eval o).run P w=.ok (.enter f args) w)
  (hk:Calls P f args w fun e w'=>match e with
   |.returned v=>next (a.put o.dst v) w'
   |.panicked ch=>Q (.panic ch) a w'
   |.outgrown=>False):o.wp P a w next Q:=by
 unfold Oper.wp
 rw[h]
 refine hk.mono fun e w' hp=>?_
 cases e with
 |returned v=>exact hp
 |panicked ch=>exact hp
 |outgrown=>exact hp.elim
end
def offIv (β:Nat→Nat):Deferred:={target:=.fn (.func 255) #[.pointer (some ⟨β 0,0,none⟩),.pointer (some ⟨β 1,0,none⟩)],args:=#[]}
theorem BH {M:Mach} {C:Ctx} {n:Nat} {S:AS} {h:PH} {β:Nat→Nat} {a:Act} {w:World} (g:G M C n S h β a w) {o:Oper} {t:Nat} {ts:Array TypeId} (ho:o.op=.call {callee:=.value (.tmp t),args:=#[],argTypes:=ts}) {f:FuncId} {cap:Array Value} (hf:S.ev (.tmp t)=.v (.func (.func f) #[] cap)) (hc:dS M.P f=true):
  (execOp a.eval o).run M.P w=.ok (.enter f cap) w:=by
 simp only[execOp,ho,resolve,Deferred.ofValue,g.ev_v hf,Sem.run_bind,Sem.run_pure,Result.andThen_ok,invoke]
 rw[iF hc]
 simp
theorem sM {P:Program} {ops:Array Oper} {x:Code} {Q:Exit→Act→World→Prop} {a a':Act} {w:World} (he:a=a') (h:x.wp P Q a' w):RWc P ops (Exit.then (x.wp P Q) Q) [] a w:=he▸h
theorem try_Iv {h : PH} {f:FuncId} {cap:Array Value} {w:World} (hw:Has w h) (hg:Sub mach.gl h) (hc:dS mach.P f=true) {Y:Ending→World→Prop}
  (hk :∀(w1:World),Has w1 h→Calls mach.P f cap w1 fun e w2=>∃h3,Below w1.heap.size w1 w2∧Has w2 h3∧Sub h h3∧New w1.heap.size h h3∧match e with
    |.returned v=>(∃r0 r1 r2 r3 r4 r5 r6 r7,v=.agg #[r0,r1,r2,r3,r4,r5,r6,r7]∧[r0,r1,r2,r3,r4,r5,r6,r7].all Value.oneCell'=true)∧∀w3,Fine mach ⟨w,h,[],[]⟩ h3 w3→Y (.returned (.tuple #[v,.int .i64 0])) w3
    |.panicked ch=>∃e,ch=[{v:=.iface 133 (.agg #[.int .i64 e]),recovered:=false}]∧∀w3,Fine mach ⟨w,h,[],[]⟩ h3 w3→Y (.returned (.tuple #[.agg #[.bool false,.slice none 0 0,.slice none 0 0,.bool false,.slice none 0 0,.slice none 0 0,.bool false,.bool false],.int .i64 e])) w3
    |.outgrown=>False):Calls mach.P 205 #[.func (.func f) #[] cap] w Y:=by
 refine calls_of_wp_defers Tryz.func205 rfl ?_
 refine wp_seq (wp_mono (nh (E:=NP) (Q:=fun e S h'=>e=.normal∧h'=h∧S=⟨[(3,.p 1 0),(2,.p 0 0),(0,.v (.func (.func f) #[] cap))],[[.bool false,.slice none 0 0,.slice none 0 0,.bool false,.slice none 0 0,.slice none 0 0,.bool false,.bool false],[.int .i64 0]]⟩) (G.start (M:=mach) (n:=7) (args:=[(.func (.func f) #[] cap)]) [] rfl (by simp) hw hg) ?_) ?_)
 ·refine AWP_s rfl ?_
  (repeat (first |(refine wo rfl (fun k hk=>?_);simp(disch:=omega) only[go_sem,ξ,ζ];apply hk;clear hk k) |refine wkt rfl ?_));(try refine wk0 ?_)
  exact⟨rfl,rfl,rfl⟩
 ·intro en a w1 hq
  cases en with
  | normal=>
   obtain⟨S',h',β,g,_,rfl,rfl⟩:=hq
   refine wp_seq (eK ?_)
   show RWc _ _ _ [0,1] _ _
   refine RWc_r (.func (.func 255) #[] #[.pointer (some ⟨β 0,0,none⟩),.pointer (some ⟨β 1,0,none⟩)]) rfl rfl rfl (fun w' hb=>?_) ?_
   ·simp[execOp,Instr.makeFunc,(g.below hb).ev_p (x:=.tmp 2) rfl,(g.below hb).ev_p (x:=.tmp 3) rfl]
   ·have g4 :=g.put (d:=some 4) (fun k hk=>by cases hk;decide) (x:=.top) (v:=(.func (.func 255) #[] #[.pointer (some ⟨β 0,0,none⟩),.pointer (some ⟨β 1,0,none⟩)])) (.inl rfl) (fun i hi=>by cases hi)
    have e4:(a.put (some 4) (.func (.func 255) #[] #[.pointer (some ⟨β 0,0,none⟩),.pointer (some ⟨β 1,0,none⟩)])).eval (.tmp 4)=(.func (.func 255) #[] #[.pointer (some ⟨β 0,0,none⟩),.pointer (some ⟨β 1,0,none⟩)]):=by
     have:=g.size
     simp[Act.eval,Act.put,this]
    refine RWc_i rfl (by decide) rfl (B9 (offIv β) ?_ ⟨.inr (Below.refl _ _),?_⟩)
    ·simp[execOp,offIv,resolve,Deferred.ofValue,e4]
    ·refine sM (a':={a.put (some 4) (.func (.func 255) #[] #[.pointer (some ⟨β 0,0,none⟩),.pointer (some ⟨β 1,0,none⟩)]) with defers:=[offIv β]}) ?_ ?_
     ·simp[Act.put,show a.defers=[] from g.defers]
     ·have g5 :=g4.re (C':=⟨w,h',[β 0,β 1],[offIv β]⟩) rfl rfl [offIv β] rfl ⟨by simp[AS.put],fun i hi=>by
       match i,hi with
       |0,_=>rfl
       |1,_=>rfl⟩
      generalize({a.put (some 4) (.func (.func 255) #[] #[.pointer (some ⟨β 0,0,none⟩),.pointer (some ⟨β 1,0,none⟩)]) with defers:=[offIv β]}:Act)=a5 at g5 ⊢
      clear e4 g4 g
      simp only[AS.put,st,ξ,cond_false] at g5
      refine wp_seq (eK ?_)
      show RWc _ _ _ [0,1,2,3] _ _
      refine RWc_r (.func (.func f) #[] cap) rfl rfl rfl (fun w' hb=>?_) ?_
      ·simp[execOp,(g5.below hb).ev_v (x:=.tmp 0) rfl]
      ·have g6:=g5.put (d:=some 5) (fun k hk=>by cases hk;decide) (x:=.v (.func (.func f) #[] cap)) (v:=(.func (.func f) #[] cap)) (.inr rfl) (fun i hi=>by cases hi)
       refine RWc_i rfl (by decide) rfl (tZ (f:=f) (args:=cap) ?_ ?_)
       ·exact BH g6 (t:=5) rfl rfl hc
       ·refine(hk w1 g6.fine.has).mono fun en w2 hp=>?_
        obtain⟨h3,hb,hh,hs,hn,hp⟩:=hp
        cases en with
        |outgrown=>exact hp
        | returned v=>
         obtain⟨⟨r0,r1,r2,r3,r4,r5,r6,r7,rfl,hone⟩,hY⟩:=hp
         refine⟨.inr hb,?_⟩
         have g7:=(g6.grow hb hh hs hn).put (d:=some 6) (fun k hk=>by cases hk;decide) (x:=.v (.agg #[r0,r1,r2,r3,r4,r5,r6,r7])) (v:=.agg #[r0,r1,r2,r3,r4,r5,r6,r7]) (.inr rfl) (fun i hi=>by cases hi)
         refine uo (Q:=LQ mach 7 ⟨w,h',[β 0,β 1],[offIv β]⟩ (fun e S h''=>e=.normal∧h''=h3∧2≤S.bx.length∧lk S.sl 2=.p 0 0∧lk S.sl 3=.p 1 0∧S.box 0=[r0,r1,r2,r3,r4,r5,r6,r7]∧S.box 1=[.int .i64 0]) NP) ?_ ?_ ?_ [2,3] _ _ (fx [.o 2,.o 3] _ _ _ _ _ _ rfl ?_ g7)
         ·rintro a8 w3 ⟨S8,h8,β8,g8,_,rfl,hl,l2,l3,b0,b1⟩
          refine wp_ret ?_
          show Leaves mach.P _ a8.tmps Y a8.defers .returning w3
          rw[show a8.defers=[offIv β] from g8.defers]
          refine leaves_cons (f:=255) (args:=#[.pointer (some ⟨β 0,0,none⟩),.pointer (some ⟨β 1,0,none⟩)]) (by simp) (by simp[go_sem];exact iF (by kernel_rfl) _ _) ?_
          refine(idle_Iv _ _ _).mono ?_
          rintro e u' w'' ⟨rfl,rfl,rfl⟩
          simp only[settle,Leaves]
          refine⟨_,i9 g8 (v:=.tuple #[.agg #[r0,r1,r2,r3,r4,r5,r6,r7],.int .i64 0]) ?_,hY _ (g8.fine.re rfl rfl)⟩
          show resA mach.P S8 [.cell 2 35,.cell 3 36]=_
          have b0':S8.bx.getD 0 []=_:=b0
          have b1':S8.bx.getD 1 []=_:=b1
          simp only[resA,resL,res1,l2,l3,ldb,b0',b1',go_sem]
          all_goals rfl
         ·rintro ch a w ⟨_,_,_,hq⟩;exact(hq:False).elim
         ·intro a w hq;exact(hq:False).elim
         ·simp only[AS.put,st,ξ,cond_false]
          refine wk (fun k hk=>?_)
          simp(disch:=omega) only[go_sem,ξ,ζ]
          refine⟨by simpa[Value.oneCell'] using hone,hk _ _ ?_⟩
          clear hk k
          (repeat (first |(refine wo rfl (fun k hk=>?_);simp(disch:=omega) only[go_sem,ξ,ζ];apply hk;clear hk k) |refine wkt rfl ?_));(try refine wk0 ?_)
          exact⟨trivial,rfl,by simp,rfl,rfl,rfl,rfl⟩
        | panicked ch=>
         obtain⟨e,rfl,hY⟩:=hp
         have g7:=g6.grow hb hh hs hn
         show Leaves mach.P _ (a5.put (some 5) (.func (.func f) #[] cap)).tmps Y (a5.put (some 5) (.func (.func f) #[] cap)).defers (.panicking _) w2
         rw[show(a5.put (some 5) (.func (.func f) #[] cap)).defers=[offIv β] from g7.defers]
         refine leaves_cons (f:=255) (args:=#[.pointer (some ⟨β 0,0,none⟩),.pointer (some ⟨β 1,0,none⟩)]) (by simp) (by simp[go_sem];exact iF (by kernel_rfl) _ _) ?_
         refine(I3 g7.fine ⟨g7.boxes,g7.inj⟩ rfl rfl).mono ?_
         rintro en u' w'' ⟨rfl,rfl,hf,hr⟩
         simp only[settle,Leaves,List.dropWhile_nil]
         have g9:G mach ⟨w,h',[β 0,β 1],[offIv β]⟩ 7 ⟨_,[[.bool false,.slice none 0 0,.slice none 0 0,.bool false,.slice none 0 0,.slice none 0 0,.bool false,.bool false],[.int .i64 e]]⟩ h3 β (a5.put (some 5) (.func (.func f) #[] cap)) w'':=⟨g7.size,g7.defers,hf,hr.at_,hr.inj,g7.slots,g7.wf,g7.pin⟩
         refine⟨_,i9 g9 (v:=.tuple #[.agg #[.bool false,.slice none 0 0,.slice none 0 0,.bool false,.slice none 0 0,.slice none 0 0,.bool false,.bool false],.int .i64 e]) ?_,hY _ (hf.re rfl rfl)⟩
         show resA mach.P _ [.cell 2 35,.cell 3 36]=_
         simp only[resA,resL,res1,ldb,go_sem]
         rfl
  |panic ch=>obtain⟨_,_,_,hq⟩:=hq;exact(hq:False).elim
  |outgrown=>exact(hq:False).elim
  |_=>obtain⟨_,_,_,_,hq,_⟩:=hq;cases hq
theorem tryIv_ok {h:PH} {f:FuncId} {cap:Array Value} {R R':Value→PH→Prop} (s:Spec mach f cap h R NP) (hR:∀v h',Sub h h'→R v h'→(∃r0 r1 r2 r3 r4 r5 r6 r7,v=.agg #[r0,r1,r2,r3,r4,r5,r6,r7]∧[r0,r1,r2,r3,r4,r5,r6,r7].all Value.oneCell'=true)∧R' (.tuple #[v,.int .i64 0]) h'):
  Spec mach 205 #[.func (.func f) #[] cap] h R' NP:=⟨by kernel_rfl,fun w hw hg=>try_Iv hw hg s.ok fun w1 hw1=>(s.run w1 hw1 hg).mono fun e w2 hp=>by
 cases e with
 |outgrown=>exact(hp:False).elim
 |panicked ch=>obtain⟨_,_,_,_,_,hp⟩:=hp;exact(hp:False).elim
 | returned v=>
  obtain⟨h3,hb,hh,hs,hn,hr⟩:=hp
  obtain⟨hv,hr⟩:=hR v h3 hs hr
  exact⟨h3,hb,hh,hs,hn,hv,fun w3 hf=>⟨h3,hf.below,hf.has,hf.sub,hf.new,hr⟩⟩⟩
theorem F4 {h:PH} {f:FuncId} {cap:Array Value} {e:Int} {R':Value→PH→Prop} (s:Spec mach f cap h NR (fail e)) (hR:∀h',Sub h h'→R' (.tuple #[.agg #[.bool false,.slice none 0 0,.slice none 0 0,.bool false,.slice none 0 0,.slice none 0 0,.bool false,.bool false],.int .i64 e]) h'):
  Spec mach 205 #[.func (.func f) #[] cap] h R' NP:=⟨by kernel_rfl,fun w hw hg=>try_Iv hw hg s.ok fun w1 hw1=>(s.run w1 hw1 hg).mono fun en w2 hp=>by
 cases en with
 |outgrown=>exact(hp:False).elim
 |returned v=>obtain⟨_,_,_,_,_,hp⟩:=hp;exact(hp:False).elim
 | panicked ch=>
  obtain⟨h3,hb,hh,hs,hn,hr⟩:=hp
  exact⟨h3,hb,hh,hs,hn,e,hr,fun w3 hf=>⟨h3,hf.below,hf.has,hf.sub,hf.new,hR h3 hs⟩⟩⟩
end Go.Q
namespace Go.Q
open Go.Proofs
open Go.RowKit (Below)
set_option maxRecDepth 100000
set_option maxHeartbeats 4000000
end Go.Q
namespace Go.Q
open Go.Proofs
open Go.RowKit (Below)
set_option maxRecDepth 100000
set_option maxHeartbeats 4000000
theorem idle_Bo (p q:Value) (w:World):CallsD mach.P 85 #[p,q] .returning w fun e u' w'=>e=.returned (.tuple #[])∧u'=.returning∧w'=w:=by
 refine callsD_of_wpS Tryz.func85 rfl fun c₀ cs hu=>?_
 apply wpS_seq
 apply wpS_region
 simp[wpOpsS,go_sem,recoverD,hu,Exit.thenS]
 have hnil:∀w:World,(binOp BinOp.eql 20 .nilIface .nilIface).run mach.P w=.ok (.bool true) w:=fun _=>by kernel_rfl
 refine wpS_of_wp (wp_block (wp_seq_k fun K hK=>?_))
 apply wp_region
 simp[wpOps,go_sem,hnil,Oper.upon,Exit.then]
 refine .inl (hK _ _ ?_)
 clear hK K
 refine wp_cond_true ?_ ?_
 ·simp[Act.eval]
 apply wp_region
 simp[wpOps,go_sem]
 cases c₀
 simp_all [bodyPostS,results,Tryz.results85,Exit.inBlock]
theorem I1 {C:Ctx} {h:PH} {β:Nat→Nat} {w:World} {rv re:List Value} {e:Int} (hf:Fine mach C h w) (hr:Rows C h w β [rv,re]) (h8:rv.length=1) (h1:re.length=1):
    CallsD mach.P 85 #[.pointer (some ⟨β 0,0,none⟩),.pointer (some ⟨β 1,0,none⟩)] (.panicking [{v:=.iface 133 (.agg #[.int .i64 e]),recovered:=false}]) w fun en u' w'=>
      en=.returned (.tuple #[])∧u'=.panicking [{v:=.iface 133 (.agg #[.int .i64 e]),recovered:=true}]∧
      Fine mach C h w'∧Rows C h w' β [[.bool false],[.int .i64 e]]:=by
  have hnil:∀w:World,(binOp BinOp.eql 20 (.iface 133 (.agg #[.int .i64 e])) .nilIface).run mach.P w=.ok (.bool false) w:=fun _=>by kernel_rfl
  have has:∀w:World,(Instr.typeAssert (.iface 133 (.agg #[.int .i64 e])) 20 133 true).run mach.P w=.ok (.tuple #[.agg #[.int .i64 e],.bool true]) w:=fun _=>by kernel_rfl
  refine callsD_of_wpS Tryz.func85 rfl fun c₀ cs hu=>?_
  apply wpS_seq
  apply wpS_region
  simp[wpOpsS,go_sem,recoverD,hu,Exit.thenS]
  refine wpS_of_wp (wp_block (wp_seq_k fun K hK=>?_))
  apply wp_region
  simp[wpOps,go_sem,hnil,Oper.upon,Exit.then]
  refine .inl (hK _ _ ?_)
  clear hK K
  refine wp_cond_false ?_ ?_
  · simp[Act.eval]
  refine wp_seq_k fun K hK=>?_
  apply wp_region
  simp[wpOps,go_sem,has,Oper.upon,Exit.then]
  repeat refine Or.inl ?_
  refine hK _ _ ?_
  clear hK K
  refine wp_cond_true ?_ ?_
  · simp[Act.eval]
  match rv,re,h8,h1 with
  |[r0],[q0],_,_=>
  refine wp_mono (nh (M:=mach) (n:=15) (C:=⟨C.w0,C.h0,[β 0,β 1],[]⟩) (S:=⟨[(0,.p 0 0),(1,.p 1 0),(11,.v (.agg #[.int .i64 e]))],[[r0],[q0]]⟩) (h:=h) (β:=β) (E:=NP)
    (Q:=fun en S h'=>en=.normal∧h'=h∧2≤S.bx.length∧S.box 0=[.bool false]∧S.box 1=[.int .i64 e]) ?_ ?_) ?_
  · refine⟨by simp,rfl,hf.re rfl rfl,fun i cs hi hc=>(hr.at_ i cs hi hc).re rfl,hr.inj,fun t=>?_,fun t i hi=>?_,by simp,fun i hi=>?_⟩
    · simp only[lk]
      by_cases h0:t=0
      · subst h0;exact .inr rfl
      · by_cases h1:t=1
        · subst h1;exact .inr rfl
        · by_cases h2:t=11
          · subst h2;exact .inr rfl
          · refine .inl ?_
            have e0:(0 == t)=false:=by simp;omega
            have e1:(1 == t)=false:=by simp;omega
            have e2:(11 == t)=false:=by simp;omega
            simp[e0,e1,e2]
    · simp only[lk] at hi
      by_cases h0:t=0
      · subst h0;simp[AV.ix] at hi;subst hi;simp
      · by_cases h1:t=1
        · subst h1;simp[AV.ix] at hi;subst hi;simp
        · have e0:(0 == t)=false:=by simp;omega
          have e1:(1 == t)=false:=by simp;omega
          rw[e0,e1] at hi
          cases hx:(11 == t)<;>rw[hx] at hi<;>cases hi
    · simp only[List.length_cons,List.length_nil] at hi
      match i,hi with
      |0,_=>rfl
      |1,_=>rfl
  · repeat (first |(refine rg rfl rfl (fun K hK=>?_);(repeat (first |(refine wo rfl (fun k hk=>?_);simp(disch:=omega) only[go_sem,ξ,ζ];apply hk;clear hk k) |refine wkt rfl ?_));(try refine wk0 ?_);apply hK;clear hK K;(try dsimp only[ag,qs,qb])) |((first |refine ae ?_ |refine ac ?_);simp(disch:=decide) only[qs,qb,if_true,if_false,reduceIte]) |refine ah rfl (fun K hK=>?_) |refine ct rfl ?_ |((first |refine hK _ _ ?_ |(clear hK;refine hK _ _ ?_) |(clear hK;clear hK;refine hK _ _ ?_));clear hK;(try clear K)))
    refine pD (.alt 0 (.alt 1 (.alt 2 (.alt 3 (.alt 4 .done .no) .no) (.alt 3 (.alt 2 (.alt 4 .done .no) .no) .no)) (.alt 3 (.alt 1 (.alt 2 (.alt 4 .done .no) .no) .no) .no)) (.alt 1 (.alt 0 (.alt 2 (.alt 3 (.alt 4 .done .no) .no) (.alt 3 (.alt 2 (.alt 4 .done .no) .no) .no)) (.alt 2 (.alt 0 (.alt 3 (.alt 4 .done .no) .no) .no) .no)) .no)) (by decide+kernel) rfl (fun K hK=>?_)
    have fin:∀S h',h'=h→S.box 0=[.bool false]→S.box 1=[.int .i64 e]→2≤S.bx.length→K S h':=fun S h' e0 e1 e2 e3=>hK _ _ ⟨rfl,e0,e3,e1,e2⟩
    clear hK
    repeat' (first |exact wt_no |exact ak (fin _ _ rfl rfl rfl (by simp)) |refine aj ?_ ?_ |(refine wk (fun k hk=>?_);simp(disch:=omega) only[go_sem,ξ,ζ];apply hk;clear hk k;with_reducible refine wk0 ?_))
  · intro en a' w' hq
    cases en with
    | normal=>
      obtain⟨S',h',β',g',_,rfl,hl,hb0,hb1⟩:=hq
      have e0:β' 0=β 0:=g'.pin.2 0 (by simp)
      have e1:β' 1=β 1:=g'.pin.2 1 (by simp)
      have x0:=g'.boxes 0 _ (box_get hl) (by rw[hb0];simp)
      have x1:=g'.boxes 1 _ (box_get hl) (by rw[hb1];simp)
      have ne:=g'.inj 0 1 _ _ (box_get hl) (box_get hl) (by rw[hb0];simp) (by rw[hb1];simp)
      rw[e0,hb0] at x0
      rw[e1,hb1] at x1
      rw[e0,e1] at ne
      cases c₀
      simp only[Exit.inBlock,bodyPostS]
      refine⟨g'.defers,_,rfl,_,results_none rfl _ _ _,rfl,rfl,g'.fine.re rfl rfl,tL (x0.re rfl) (x1.re rfl) (fun e=>by simpa using ne e)⟩
    |panic ch=>obtain⟨_,_,_,hq⟩:=hq;exact(hq:False).elim
    |outgrown=>exact(hq:False).elim
    |_=>obtain⟨_,_,_,_,hq,_⟩:=hq;cases hq
def offBo (β:Nat→Nat):Deferred:={target:=.fn (.func 85) #[.pointer (some ⟨β 0,0,none⟩),.pointer (some ⟨β 1,0,none⟩)],args:=#[]}
theorem try_Bo {h : PH} {f:FuncId} {cap:Array Value} {w:World} (hw:Has w h) (hg:Sub mach.gl h) (hc:dS mach.P f=true) {Y:Ending→World→Prop}
  (hk :∀(w1:World),Has w1 h→Calls mach.P f cap w1 fun e w2=>∃h3,Below w1.heap.size w1 w2∧Has w2 h3∧Sub h h3∧New w1.heap.size h h3∧match e with
    |.returned v=>(∃r0,v=Value.bool r0∧[Value.bool r0].all Value.oneCell'=true)∧∀w3,Fine mach ⟨w,h,[],[]⟩ h3 w3→Y (.returned (.tuple #[v,.int .i64 0])) w3
    |.panicked ch=>∃e,ch=[{v:=.iface 133 (.agg #[.int .i64 e]),recovered:=false}]∧∀w3,Fine mach ⟨w,h,[],[]⟩ h3 w3→Y (.returned (.tuple #[.bool false,.int .i64 e])) w3
    |.outgrown=>False):Calls mach.P 45 #[.func (.func f) #[] cap] w Y:=by
 refine calls_of_wp_defers Tryz.func45 rfl ?_
 refine wp_seq (wp_mono (nh (E:=NP) (Q:=fun e S h'=>e=.normal∧h'=h∧S=⟨[(3,.p 1 0),(2,.p 0 0),(0,.v (.func (.func f) #[] cap))],[[.bool false],[.int .i64 0]]⟩) (G.start (M:=mach) (n:=7) (args:=[(.func (.func f) #[] cap)]) [] rfl (by simp) hw hg) ?_) ?_)
 ·refine AWP_s rfl ?_
  (repeat (first |(refine wo rfl (fun k hk=>?_);simp(disch:=omega) only[go_sem,ξ,ζ];apply hk;clear hk k) |refine wkt rfl ?_));(try refine wk0 ?_)
  exact⟨rfl,rfl,rfl⟩
 ·intro en a w1 hq
  cases en with
  | normal=>
   obtain⟨S',h',β,g,_,rfl,rfl⟩:=hq
   refine wp_seq (eK ?_)
   show RWc _ _ _ [0,1] _ _
   refine RWc_r (.func (.func 85) #[] #[.pointer (some ⟨β 0,0,none⟩),.pointer (some ⟨β 1,0,none⟩)]) rfl rfl rfl (fun w' hb=>?_) ?_
   ·simp[execOp,Instr.makeFunc,(g.below hb).ev_p (x:=.tmp 2) rfl,(g.below hb).ev_p (x:=.tmp 3) rfl]
   ·have g4 :=g.put (d:=some 4) (fun k hk=>by cases hk;decide) (x:=.top) (v:=(.func (.func 85) #[] #[.pointer (some ⟨β 0,0,none⟩),.pointer (some ⟨β 1,0,none⟩)])) (.inl rfl) (fun i hi=>by cases hi)
    have e4:(a.put (some 4) (.func (.func 85) #[] #[.pointer (some ⟨β 0,0,none⟩),.pointer (some ⟨β 1,0,none⟩)])).eval (.tmp 4)=(.func (.func 85) #[] #[.pointer (some ⟨β 0,0,none⟩),.pointer (some ⟨β 1,0,none⟩)]):=by
     have:=g.size
     simp[Act.eval,Act.put,this]
    refine RWc_i rfl (by decide) rfl (B9 (offBo β) ?_ ⟨.inr (Below.refl _ _),?_⟩)
    ·simp[execOp,offBo,resolve,Deferred.ofValue,e4]
    ·refine sM (a':={a.put (some 4) (.func (.func 85) #[] #[.pointer (some ⟨β 0,0,none⟩),.pointer (some ⟨β 1,0,none⟩)]) with defers:=[offBo β]}) ?_ ?_
     ·simp[Act.put,show a.defers=[] from g.defers]
     ·have g5 :=g4.re (C':=⟨w,h',[β 0,β 1],[offBo β]⟩) rfl rfl [offBo β] rfl ⟨by simp[AS.put],fun i hi=>by
       match i,hi with
       |0,_=>rfl
       |1,_=>rfl⟩
      generalize({a.put (some 4) (.func (.func 85) #[] #[.pointer (some ⟨β 0,0,none⟩),.pointer (some ⟨β 1,0,none⟩)]) with defers:=[offBo β]}:Act)=a5 at g5 ⊢
      clear e4 g4 g
      simp only[AS.put,st,ξ,cond_false] at g5
      refine wp_seq (eK ?_)
      show RWc _ _ _ [0,1,2,3] _ _
      refine RWc_r (.func (.func f) #[] cap) rfl rfl rfl (fun w' hb=>?_) ?_
      ·simp[execOp,(g5.below hb).ev_v (x:=.tmp 0) rfl]
      ·have g6:=g5.put (d:=some 5) (fun k hk=>by cases hk;decide) (x:=.v (.func (.func f) #[] cap)) (v:=(.func (.func f) #[] cap)) (.inr rfl) (fun i hi=>by cases hi)
       refine RWc_i rfl (by decide) rfl (tZ (f:=f) (args:=cap) ?_ ?_)
       ·exact BH g6 (t:=5) rfl rfl hc
       ·refine(hk w1 g6.fine.has).mono fun en w2 hp=>?_
        obtain⟨h3,hb,hh,hs,hn,hp⟩:=hp
        cases en with
        |outgrown=>exact hp
        | returned v=>
         obtain⟨⟨r0,rfl,hone⟩,hY⟩:=hp
         refine⟨.inr hb,?_⟩
         have g7:=(g6.grow hb hh hs hn).put (d:=some 6) (fun k hk=>by cases hk;decide) (x:=.v (Value.bool r0)) (v:=Value.bool r0) (.inr rfl) (fun i hi=>by cases hi)
         refine uo (Q:=LQ mach 7 ⟨w,h',[β 0,β 1],[offBo β]⟩ (fun e S h''=>e=.normal∧h''=h3∧2≤S.bx.length∧lk S.sl 2=.p 0 0∧lk S.sl 3=.p 1 0∧S.box 0=[Value.bool r0]∧S.box 1=[.int .i64 0]) NP) ?_ ?_ ?_ [2,3] _ _ (fx [.o 2,.o 3] _ _ _ _ _ _ rfl ?_ g7)
         ·rintro a8 w3 ⟨S8,h8,β8,g8,_,rfl,hl,l2,l3,b0,b1⟩
          refine wp_ret ?_
          show Leaves mach.P _ a8.tmps Y a8.defers .returning w3
          rw[show a8.defers=[offBo β] from g8.defers]
          refine leaves_cons (f:=85) (args:=#[.pointer (some ⟨β 0,0,none⟩),.pointer (some ⟨β 1,0,none⟩)]) (by simp) (by simp[go_sem];exact iF (by kernel_rfl) _ _) ?_
          refine(idle_Bo _ _ _).mono ?_
          rintro e u' w'' ⟨rfl,rfl,rfl⟩
          simp only[settle,Leaves]
          refine⟨_,i9 g8 (v:=.tuple #[Value.bool r0,.int .i64 0]) ?_,hY _ (g8.fine.re rfl rfl)⟩
          show resA mach.P S8 [.cell 2 4,.cell 3 36]=_
          have b0':S8.bx.getD 0 []=_:=b0
          have b1':S8.bx.getD 1 []=_:=b1
          simp only[resA,resL,res1,l2,l3,ldb,b0',b1',go_sem]
          all_goals rfl
         ·rintro ch a w ⟨_,_,_,hq⟩;exact(hq:False).elim
         ·intro a w hq;exact(hq:False).elim
         ·simp only[AS.put,st,ξ,cond_false]
          refine wk (fun k hk=>?_)
          simp(disch:=omega) only[go_sem,ξ,ζ]
          (first |refine⟨by simpa[Value.oneCell'] using hone,hk _ _ ?_⟩ |refine hk _ _ ?_)
          clear hk k
          (repeat (first |(refine wo rfl (fun k hk=>?_);simp(disch:=omega) only[go_sem,ξ,ζ];apply hk;clear hk k) |refine wkt rfl ?_));(try refine wk0 ?_)
          exact⟨trivial,rfl,by simp,rfl,rfl,rfl,rfl⟩
        | panicked ch=>
         obtain⟨e,rfl,hY⟩:=hp
         have g7:=g6.grow hb hh hs hn
         show Leaves mach.P _ (a5.put (some 5) (.func (.func f) #[] cap)).tmps Y (a5.put (some 5) (.func (.func f) #[] cap)).defers (.panicking _) w2
         rw[show(a5.put (some 5) (.func (.func f) #[] cap)).defers=[offBo β] from g7.defers]
         refine leaves_cons (f:=85) (args:=#[.pointer (some ⟨β 0,0,none⟩),.pointer (some ⟨β 1,0,none⟩)]) (by simp) (by simp[go_sem];exact iF (by kernel_rfl) _ _) ?_
         refine(I1 g7.fine ⟨g7.boxes,g7.inj⟩ rfl rfl).mono ?_
         rintro en u' w'' ⟨rfl,rfl,hf,hr⟩
         simp only[settle,Leaves,List.dropWhile_nil]
         have g9:G mach ⟨w,h',[β 0,β 1],[offBo β]⟩ 7 ⟨_,[[.bool false],[.int .i64 e]]⟩ h3 β (a5.put (some 5) (.func (.func f) #[] cap)) w'':=⟨g7.size,g7.defers,hf,hr.at_,hr.inj,g7.slots,g7.wf,g7.pin⟩
         refine⟨_,i9 g9 (v:=.tuple #[.bool false,.int .i64 e]) ?_,hY _ (hf.re rfl rfl)⟩
         show resA mach.P _ [.cell 2 4,.cell 3 36]=_
         simp only[resA,resL,res1,ldb,go_sem]
         all_goals rfl
  |panic ch=>obtain⟨_,_,_,hq⟩:=hq;exact(hq:False).elim
  |outgrown=>exact(hq:False).elim
  |_=>obtain⟨_,_,_,_,hq,_⟩:=hq;cases hq
theorem tryBo_ok {h:PH} {f:FuncId} {cap:Array Value} {R R':Value→PH→Prop} (s:Spec mach f cap h R NP) (hR:∀v h',Sub h h'→R v h'→(∃r0,v=Value.bool r0∧[Value.bool r0].all Value.oneCell'=true)∧R' (.tuple #[v,.int .i64 0]) h'):
  Spec mach 45 #[.func (.func f) #[] cap] h R' NP:=⟨by kernel_rfl,fun w hw hg=>try_Bo hw hg s.ok fun w1 hw1=>(s.run w1 hw1 hg).mono fun e w2 hp=>by
 cases e with
 |outgrown=>exact(hp:False).elim
 |panicked ch=>obtain⟨_,_,_,_,_,hp⟩:=hp;exact(hp:False).elim
 | returned v=>
  obtain⟨h3,hb,hh,hs,hn,hr⟩:=hp
  obtain⟨hv,hr⟩:=hR v h3 hs hr
  exact⟨h3,hb,hh,hs,hn,hv,fun w3 hf=>⟨h3,hf.below,hf.has,hf.sub,hf.new,hr⟩⟩⟩
theorem FZ {h:PH} {f:FuncId} {cap:Array Value} {e:Int} {R':Value→PH→Prop} (s:Spec mach f cap h NR (fail e)) (hR:∀h',Sub h h'→R' (.tuple #[.bool false,.int .i64 e]) h'):
  Spec mach 45 #[.func (.func f) #[] cap] h R' NP:=⟨by kernel_rfl,fun w hw hg=>try_Bo hw hg s.ok fun w1 hw1=>(s.run w1 hw1 hg).mono fun en w2 hp=>by
 cases en with
 |outgrown=>exact(hp:False).elim
 |returned v=>obtain⟨_,_,_,_,_,hp⟩:=hp;exact(hp:False).elim
 | panicked ch=>
  obtain⟨h3,hb,hh,hs,hn,hr⟩:=hp
  exact⟨h3,hb,hh,hs,hn,e,hr,fun w3 hf=>⟨h3,hf.below,hf.has,hf.sub,hf.new,hR h3 hs⟩⟩⟩
end Go.Q
namespace Go.Q
open Go.Proofs
set_option maxRecDepth 100000
set_option maxHeartbeats 4000000
theorem qU {h0 h:PH} [Le h0 h] {v:Value} {q:Rat} (hv:Fr h0 v q):Spec mach 115 #[v] h (fun v h'=>Sn h' v (.i (some q) (some q))) NP:=by
 obtain⟨_,_,_,_,_,_,_,rfl,hv⟩:=hv.sa
 refine Spec.go [] Tryz.func115 rfl rfl (by kernel_rfl) fun C _=>?_
 try simp(maxSteps:=999999) (disch:=omega) only[go_sem,ξ,ζ]
 exact⟨_,_,_,_,_,_,rfl,(En.of hv).to,(En.of hv).to⟩
theorem dP {h0 h:PH} [Le h0 h] {v w:Value} {x y:Rat} (hx:Fr h0 v x) (hy:Fr h0 w y) (bx:sz x≤2^36) (by_:sz y≤2^36):
  Spec mach 193 #[v,w] h (fun v h'=>Fr h' v (min x y)) NP:=by
 obtain⟨_,_,_,_,_,_,_,rfl,hx⟩:=hx.sa
 obtain⟨_,_,_,_,_,_,_,rfl,hy⟩:=hy.sa
 refine Spec.go [] Tryz.func193 rfl rfl (by kernel_rfl) fun C _=>?_
 try simp(maxSteps:=999999) (disch:=omega) only[go_sem,ξ,ζ]
 refine caN (by exact dq hy hx by_ bx) ?_;rintro v1 h1 s1 rfl
 try simp(maxSteps:=999999) (disch:=omega) only[go_sem,ξ,ζ]
 by_cases hc:y < x
 ·have e1:cmpQ y x < 0:=by simp[cmpQ,hc]
  try simp(maxSteps:=999999) (disch:=omega) only[go_sem,ξ,ζ]
  have:min x y=y:=by grind
  rw[this];exact hy.to
 ·have e1:¬cmpQ y x < 0:=by unfold cmpQ;rw[if_neg hc];split<;>decide
  try simp(maxSteps:=999999) (disch:=omega) only[go_sem,ξ,ζ]
  have:min x y=x:=by grind
  rw[this];exact hx.to
theorem cE {h0 h:PH} [Le h0 h] {v w:Value} {x y:Rat} (hx:Fr h0 v x) (hy:Fr h0 w y) (bx:sz x≤2^36) (by_:sz y≤2^36):
  Spec mach 169 #[v,w] h (fun v h'=>Fr h' v (max x y)) NP:=by
 obtain⟨_,_,_,_,_,_,_,rfl,hx⟩:=hx.sa
 obtain⟨_,_,_,_,_,_,_,rfl,hy⟩:=hy.sa
 refine Spec.go [] Tryz.func169 rfl rfl (by kernel_rfl) fun C _=>?_
 try simp(maxSteps:=999999) (disch:=omega) only[go_sem,ξ,ζ]
 refine caN (by exact dq hy hx by_ bx) ?_;rintro v1 h1 s1 rfl
 try simp(maxSteps:=999999) (disch:=omega) only[go_sem,ξ,ζ]
 by_cases hc:x < y
 ·have e1:0 < cmpQ y x:=by unfold cmpQ;grind
  try simp(maxSteps:=999999) (disch:=omega) only[go_sem,ξ,ζ]
  have:max x y=y:=by grind
  rw[this];exact hy.to
 ·have e1:¬0 < cmpQ y x:=by unfold cmpQ;grind
  try simp(maxSteps:=999999) (disch:=omega) only[go_sem,ξ,ζ]
  have:max x y=x:=by grind
  rw[this];exact hx.to
end Go.Q
