/-
  Contracts of package interval's exported functions, and what stands on it. Conditions: each theorem's own.
-/
import Derived.Test.YtbeoaipbdfbmoaaGreatDoorK458a53PkG
import Derived.Test.YtbeoaipbdfbmoaaGreatDoorK0412d4PkM
import Derived.Test.YtbeoaipbdfbmoaaGreatDoorKb09daePkL
import Derived.Test.YtbeoaipbdfbmoaaGreatDoorKb9b9aaPkI
import Derived.Test.YtbeoaipbdfbmoaaGreatDoorK94aca5PkC
import Derived.Test.YtbeoaipbdfbmoaaGreatDoorK90bd91PkA
import Derived.Maps.OwnIn
set_option linter.unusedVariables false
set_option linter.unusedSimpArgs false
open Nat renaming reduceBEq→ξ,reduceAdd→ζ,le_trans→χ,mul_le_mul_right→ψ,le_refl→η,mul_le_mul→qAk,zero_le→qBh,lt_or_ge→qBj,one_mul→qBm
open Bool renaming and_eq_true→φ,false_eq_true→qAw
open List renaming length_append→qAp,take_of_length_le→qAr
namespace Go.Q
open Go.Proofs
set_option maxRecDepth 100000
set_option maxHeartbeats 4000000
def bad (p:Int):Bool:=decide (p < 0) || decide (128 < p)
theorem jt {p:Int} (h:bad p=false):0≤p∧p≤128:=by
 unfold bad at h
 simp only[Bool.or_eq_false_iff,decide_eq_false_iff_not] at h
 omega
theorem i7 {p:Int} (h:bad p=true):p < 0∨128 < p:=by
 unfold bad at h
 simpa using h
def Out.prec (p:Int) (o:Out):Out:=bif bad p then .error 2 else o
theorem NS.le30 {x:NS} (h:x.le 2048):x.le (2^30):=h.up (by decide)
theorem RI.le30 {x:RI} (h:x.big=false):x.set.le (2^30):=NS.le30 (RI.le h)
theorem Ah {h0 h:PH} [Le h0 h] {v:Value} {x:NS} {p:Int} (hv:Sn h0 v x) (hf:x.le (2^30)) (hp:0≤p∧p≤128):
  Spec mach 208 #[v,.int .i64 p] h (fun v h'=>Sn h' v (x.hull p.toNat)) NP:=by
 have:=Hull_set (h:=h) (p:=p.toNat) hv hf (by omega)
 rwa[show((p.toNat:Nat):Int)=p by omega] at this
theorem Does.mk {f:FuncId} {args:Array Value} {h:PH} {x:NS} (s:Spec mach f args h (fun v h'=>Sn h' v x) NP):Does f args h (.ok x):=s
theorem Canon1 {h0 h:PH} [Le h0 h] {s:Value} {x:NS} (hs:Sd h0 s x):Does 95 #[s] h (.ok x):=by
 obtain⟨_,_,_,_,_,_,_,_,_,_,_,_,_,_,_,_,rfl,hs⟩:=hs.sa
 refine Spec.go [] Tryz.func95 rfl rfl (by kernel_rfl) fun C _=>?_
 try simp(maxSteps:=999999) (disch:=omega) only[go_sem,ξ,ζ]
 exact hs.sn.to
theorem wN {h0 h:PH} [Le h0 h] {v:Value} {x:RI} (hv:Iv h0 v x):Spec mach 41 #[v] h (fun r h'=>Ir h' r (x.fin (.ok x.set))) NP:=by
 have hv0:=hv
 obtain⟨a1,m1,c1,a2,m2,c2,a3,m3,c3,a4,m4,c4,rfl,_,_⟩:=hv.sa
 refine Spec.go [] Tryz.func41 rfl rfl (by kernel_rfl) fun C _=>?_
 try simp(maxSteps:=999999) (disch:=omega) only[go_sem,ξ,ζ]
 refine caN (by exact jX hv0 (fun _ h' _ s hs=>Canon1 hs)) ?_;rintro r3 h3 st3 hr3;obtain⟨_,_,_,_,_,_,_,_,_,_,_,_,_,_,_,_,_,rfl,hr3⟩:=hr3.sa
 try simp(maxSteps:=999999) (disch:=omega) only[go_sem,ξ,ζ]
 exact hr3
theorem Round1 {h0 h:PH} [Le h0 h] {s:Value} {x:NS} {p:Int} {b:Nat} (hs:Sd h0 s x) (hf:x.le (2^30)) (hb:h b=some #[.int .i64 p]):Does 206 #[s,.pointer (some ⟨b,0,none⟩)] h (Out.prec p (.ok (x.hull p.toNat))):=by
 obtain⟨_,_,_,_,_,_,_,_,_,_,_,_,_,_,_,_,rfl,hs⟩:=hs.sa
 unfold Out.prec
 cases g:bad p with
 | true=>
  show Spec _ _ _ _ NR (fail 2)
  refine Spec.go [] Tryz.func206 rfl rfl (by kernel_rfl) fun C _=>?_
  try simp(maxSteps:=999999) (disch:=omega) only[go_sem,ξ,ζ]
  refine aE (aK hb) ?_
  try simp(maxSteps:=999999) (disch:=omega) only[go_sem,ξ,ζ]
  exact caF (by exact iN (i7 g)) (fun _ _ h=>h)
 | false=>
  show Spec _ _ _ _ _ NP
  have hp:=jt g
  refine Spec.go [] Tryz.func206 rfl rfl (by kernel_rfl) fun C _=>?_
  try simp(maxSteps:=999999) (disch:=omega) only[go_sem,ξ,ζ]
  refine aE (aK hb) ?_
  try simp(maxSteps:=999999) (disch:=omega) only[go_sem,ξ,ζ]
  refine caN (by exact aU hp.1 hp.2) ?_;rintro v1 h1 st1 _
  try simp(maxSteps:=999999) (disch:=omega) only[go_sem,ξ,ζ]
  refine aE (aK (st1.sub _ _ hb)) ?_
  try simp(maxSteps:=999999) (disch:=omega) only[go_sem,ξ,ζ]
  refine caN (by exact Ah hs.sn hf hp) ?_;rintro s2 h2 st2 hs2;obtain⟨_,_,_,_,_,_,_,_,_,_,_,_,_,_,_,_,rfl,hs2⟩:=hs2.sa
  try simp(maxSteps:=999999) (disch:=omega) only[go_sem,ξ,ζ]
  exact hs2
theorem du {h0 h:PH} [Le h0 h] {v:Value} {x:RI} {p:Int} (hv:Iv h0 v x):Spec mach 134 #[v,.int .i64 p] h (fun r h'=>Ir h' r (x.fin (Out.prec p (.ok (x.set.hull p.toNat))))) NP:=by
 have hv0:=hv
 obtain⟨a1,m1,c1,a2,m2,c2,a3,m3,c3,a4,m4,c4,rfl,_,_⟩:=hv.sa
 refine Spec.go [(1,.t (.p 1 (.s [0,1,2,3,4,5,6] .d)))] Tryz.func134 rfl rfl (by kernel_rfl) fun C _=>?_
 try simp(maxSteps:=999999) (disch:=omega) only[go_sem,ξ,ζ]
 intro b h1 st1 hb
 try simp(maxSteps:=999999) (disch:=omega) only[go_sem,ξ,ζ]
 have hb:=hb (by simp)
 refine caN (by exact jX (hv0.to (h':=h1)) (fun g h' i s hs=>Round1 hs (RI.le30 g) (i.sub _ _ hb))) ?_;rintro r3 h3 st3 hr3;obtain⟨_,_,_,_,_,_,_,_,_,_,_,_,_,_,_,_,_,rfl,hr3⟩:=hr3.sa
 try simp(maxSteps:=999999) (disch:=omega) only[go_sem,ξ,ζ]
 exact hr3
theorem Iv.mk {h:PH} {b b':Bool} {x y x' y':Value} {n1 n2:Bool} {a1 d1 a2 d2:Nat} (hv:Rw h (.agg #[.bool b,x,y]) n1 a1 d1) (hw:Rw h (.agg #[.bool b',x',y']) n2 a2 d2) (l u:Bool):Iv h (.agg #[.bool b,x,y,.bool b',x',y',.bool l,.bool u]) ⟨n1,a1,d1,n2,a2,d2,l,u⟩:=by
 have e1:=hv
 have e2:=hw
 obtain⟨_,_,_,_,_,_,e1,_⟩:=e1
 obtain⟨_,_,_,_,_,_,e2,_⟩:=e2
 simp only[Value.agg.injEq,Array.mk.injEq,List.cons.injEq,and_true,Value.bool.injEq] at e1 e2
 obtain⟨rfl,_,_⟩:=e1
 obtain⟨rfl,_,_⟩:=e2
 exact⟨_,_,_,_,rfl,hv,hw⟩
theorem NS.le.minus {x:NS} {k:Nat} (h:x.le k):x.minus.le k:=by
 cases x with
 |e=>exact h
 | i a b=>
  rw[NS.le_i] at h
  show NS.le k (.i (b.map (-·)) (a.map (-·)))
  rw[NS.le_i]
  refine⟨fun q e=>?_,fun q e=>?_⟩
  ·cases b with
   |none=>cases e
   |some b=>cases e;rw[cz];exact h.2 _ rfl
  ·cases a with
   |none=>cases e
   |some a=>cases e;rw[cz];exact h.1 _ rfl
def rnd (p:Int) (x y:NS) (o:Out):Out:=Out.prec p (bif x.void || y.void then .ok .e else match o with |.error e=>.error e |.ok z=>.ok (z.hull p.toNat))
theorem yW {h0 h:PH} [Le h0 h] {s t:Value} {x y:NS} {p:Int} {f:FuncId} {cap:Array Value} {b1 b2:Nat} {o:Out} (hs:Sd h0 s x) (ht:Sd h0 t y) (hb1:h b1=some #[.int .i64 p]) (hb2:h b2=some #[.func (.func f) #[] cap])
  (hd:x.void=false→y.void=false→∀(h':PH) [Le h h'] (s t:Value),Sd h' s x→Sd h' t y→Does f (s :: t :: cap.toList).toArray h' o) (hl:∀z,o=.ok z→z.le (2^30)):
  Does 218 #[s,t,.pointer (some ⟨b1,0,none⟩),.pointer (some ⟨b2,0,none⟩)] h (rnd p x y o):=by
 obtain⟨_,_,_,_,_,_,_,_,_,_,_,_,_,_,_,_,rfl,hs⟩:=hs.sa
 obtain⟨_,_,_,_,_,_,_,_,_,_,_,_,_,_,_,_,rfl,ht⟩:=ht.sa
 unfold rnd Out.prec
 cases g:bad p with
 | true=>
  show Spec _ _ _ _ NR (fail 2)
  refine Spec.go [(4,.o [0,1,2,4,3,5,6])] Tryz.func218 rfl rfl (by kernel_rfl) fun C _=>?_
  try simp(maxSteps:=999999) (disch:=omega) only[go_sem,ξ,ζ]
  refine aE (aK hb1) ?_
  try simp(maxSteps:=999999) (disch:=omega) only[go_sem,ξ,ζ]
  exact caF (by exact iN (i7 g)) (fun _ _ h=>h)
 | false =>
  have hp:=jt g
  dsimp only[cond_false]
  cases gx:x.void with
  | true=>
   rw[gx] at hs
   show Spec _ _ _ _ _ NP
   refine Spec.go [(4,.o [0,1,2,4,3,5,6])] Tryz.func218 rfl rfl (by kernel_rfl) fun C _=>?_
   try simp(maxSteps:=999999) (disch:=omega) only[go_sem,ξ,ζ]
   refine aE (aK hb1) ?_
   try simp(maxSteps:=999999) (disch:=omega) only[go_sem,ξ,ζ]
   refine caN (by exact aU hp.1 hp.2) ?_;rintro v1 h1 st1 _
   try simp(maxSteps:=999999) (disch:=omega) only[go_sem,ξ,ζ]
   exact⟨_,_,_,_,_,_,_,_,rfl,En.nil _,En.nil _⟩
  | false=>
   rw[gx] at hs
   cases gy:y.void with
   | true=>
    rw[gy] at ht
    show Spec _ _ _ _ _ NP
    refine Spec.go [(4,.o [0,1,2,4,3,5,6])] Tryz.func218 rfl rfl (by kernel_rfl) fun C _=>?_
    try simp(maxSteps:=999999) (disch:=omega) only[go_sem,ξ,ζ]
    refine aE (aK hb1) ?_
    try simp(maxSteps:=999999) (disch:=omega) only[go_sem,ξ,ζ]
    refine caN (by exact aU hp.1 hp.2) ?_;rintro v1 h1 st1 _
    try simp(maxSteps:=999999) (disch:=omega) only[go_sem,ξ,ζ]
    exact⟨_,_,_,_,_,_,_,_,rfl,En.nil _,En.nil _⟩
   | false=>
    rw[gy] at ht
    have hd:=hd gx gy
    cases o with
    | error e=>
     show Spec _ _ _ _ NR (fail e)
     refine Spec.go [(4,.o [0,1,2,4,3,5,6])] Tryz.func218 rfl rfl (by kernel_rfl) fun C _=>?_
     try simp(maxSteps:=999999) (disch:=omega) only[go_sem,ξ,ζ]
     refine aE (aK hb1) ?_
     try simp(maxSteps:=999999) (disch:=omega) only[go_sem,ξ,ζ]
     refine caN (by exact aU hp.1 hp.2) ?_;rintro v1 h1 st1 _
     try simp(maxSteps:=999999) (disch:=omega) only[go_sem,ξ,ζ]
     refine aE (aK (st1.sub _ _ hb2)) ?_
     try simp(maxSteps:=999999) (disch:=omega) only[go_sem,ξ,ζ]
     refine aE (aK (st1.sub _ _ hb1)) ?_
     try simp(maxSteps:=999999) (disch:=omega) only[go_sem,ξ,ζ]
     exact caF (by exact(hd _ _ _ hs.to ht.to).err) (fun _ _ h=>h)
    | ok z=>
     show Spec _ _ _ _ _ NP
     refine Spec.go [(4,.o [0,1,2,4,3,5,6])] Tryz.func218 rfl rfl (by kernel_rfl) fun C _=>?_
     try simp(maxSteps:=999999) (disch:=omega) only[go_sem,ξ,ζ]
     refine aE (aK hb1) ?_
     try simp(maxSteps:=999999) (disch:=omega) only[go_sem,ξ,ζ]
     refine caN (by exact aU hp.1 hp.2) ?_;rintro v1 h1 st1 _
     try simp(maxSteps:=999999) (disch:=omega) only[go_sem,ξ,ζ]
     refine aE (aK (st1.sub _ _ hb2)) ?_
     try simp(maxSteps:=999999) (disch:=omega) only[go_sem,ξ,ζ]
     refine aE (aK (st1.sub _ _ hb1)) ?_
     try simp(maxSteps:=999999) (disch:=omega) only[go_sem,ξ,ζ]
     refine caN (by exact(hd _ _ _ hs.to ht.to).ok) ?_;rintro v2 h2 st2 hv2
     try simp(maxSteps:=999999) (disch:=omega) only[go_sem,ξ,ζ]
     refine caN (by exact Ah hv2 (hl _ rfl) hp) ?_;rintro _ h3 _ hv3;obtain⟨_,_,_,_,_,_,_,_,_,_,_,_,_,_,_,_,rfl,hv3⟩:=hv3.sa
     try simp(maxSteps:=999999) (disch:=omega) only[go_sem,ξ,ζ]
     exact hv3
theorem mC {h0 h:PH} [Le h0 h] {v w:Value} {x y:RI} {p:Int} {f:FuncId} {cap:Array Value} {o:Out} (hv:Iv h0 v x) (hw:Iv h0 w y)
  (hd:x.big=false→y.big=false→x.set.void=false→y.set.void=false→∀(h':PH) [Le h h'] (s t:Value),Sd h' s x.set→Sd h' t y.set→Does f (s :: t :: cap.toList).toArray h' o) (hl:x.big=false→y.big=false→∀z,o=.ok z→z.le (2^30)):
  Spec mach 153 #[v,w,.int .i64 p,.func (.func f) #[] cap] h (fun r h'=>Ir h' r (x.fin2 y (rnd p x.set y.set o))) NP:=by
 have hv0:=hv
 have hw0:=hw
 obtain⟨a1,m1,c1,a2,m2,c2,a3,m3,c3,a4,m4,c4,rfl,_,_⟩:=hv.sa
 obtain⟨a1',m1',c1',a2',m2',c2',a3',m3',c3',a4',m4',c4',rfl,_,_⟩:=hw.sa
 refine Spec.go [(1,.t (.p 2 (.p 3 (.s [0,1,2,3,4,5,6,7] .d))))] Tryz.func153 rfl rfl (by kernel_rfl) fun C _=>?_
 try simp(maxSteps:=999999) (disch:=omega) only[go_sem,ξ,ζ]
 intro b1 h1 st1 hb1
 try simp(maxSteps:=999999) (disch:=omega) only[go_sem,ξ,ζ]
 intro b2 h2 st2 hb2
 try simp(maxSteps:=999999) (disch:=omega) only[go_sem,ξ,ζ]
 have hb2:=hb2 (by simp)
 have hb1:=st2.sub _ _ (hb1 (by simp))
 refine caN (by exact mV (hv0.to (h':=h2)) (hw0.to (h':=h2)) (fun g g' h' i s t hs ht=>yW hs ht (i.sub _ _ hb1) (i.sub _ _ hb2) (fun k k' h'' i' s t hs ht=>@hd g g' k k' h'' (Le.tr (Le.tr inferInstance i) i') s t hs ht) (hl g g'))) ?_;rintro _ h4 _ hr4;obtain⟨_,_,_,_,_,_,_,_,_,_,_,_,_,_,_,_,_,rfl,hr4⟩:=hr4.sa
 try simp(maxSteps:=999999) (disch:=omega) only[go_sem,ξ,ζ]
 exact hr4
theorem NS.le.sum {x y:NS} (hx:x.le 2048) (hy:y.le 2048):(x.sum y).le (2^30):=by
  cases x with
  |e=>rfl
  | i a b =>cases y with
    |e=>rfl
    | i c d =>
      rw[NS.le_i] at hx hy
      show NS.le _ (.i (oadd a c) (oadd b d))
      rw[NS.le_i]
      refine⟨fun q e=>?_,fun q e=>?_⟩
      · cases a with
        |none=>cases e
        | some a=>cases c with
          |none=>cases e
          | some c=>
            cases e
            have:=dA a c
            have:=hx.1 _ rfl
            have:=hy.1 _ rfl
            omega
      · cases b with
        |none=>cases e
        | some b=>cases d with
          |none=>cases e
          | some d=>
            cases e
            have:=dA b d
            have:=hx.2 _ rfl
            have:=hy.2 _ rfl
            omega
theorem Sum1 {h0 h:PH} [Le h0 h] {s t:Value} {x y:NS} (hs:Sn h0 s x) (ht:Sn h0 t y) (gx:x.void=false) (gy:y.void=false) (lx:x.le (2^30)) (ly:y.le (2^30)):Spec mach 159 #[s,t] h (fun v h'=>Sn h' v (x.sum y)) NP:=by
 cases x with
 |e=>cases gx
 | i a b=>cases y with
  |e=>cases gy
  |i c d=>exact sum_set hs ht lx ly
theorem jf {h0 h:PH} [Le h0 h] {v w:Value} {x y:RI} {p:Int} (hv:Iv h0 v x) (hw:Iv h0 w y):Spec mach 182 #[v,w,.int .i64 p] h (fun r h'=>Ir h' r (x.fin2 y (rnd p x.set y.set (.ok (x.set.sum y.set))))) NP:=by
 have hv0:=hv
 have hw0:=hw
 obtain⟨a1,m1,c1,a2,m2,c2,a3,m3,c3,a4,m4,c4,rfl,_,_⟩:=hv.sa
 obtain⟨a1',m1',c1',a2',m2',c2',a3',m3',c3',a4',m4',c4',rfl,_,_⟩:=hw.sa
 refine Spec.go [] Tryz.func182 rfl rfl (by kernel_rfl) fun C _=>?_
 try simp(maxSteps:=999999) (disch:=omega) only[go_sem,ξ,ζ]
 refine caN (by exact mC hv0 hw0 (fun g g' k k' h' _ s t hs ht=>Does.mk (Sum1 hs.sn ht.sn k k' (RI.le30 g) (RI.le30 g'))) (fun g g' z e=>by cases e;exact NS.le.sum (RI.le g) (RI.le g'))) ?_;rintro _ h3 _ hr3;obtain⟨_,_,_,_,_,_,_,_,_,_,_,_,_,_,_,_,_,rfl,hr3⟩:=hr3.sa
 try simp(maxSteps:=999999) (disch:=omega) only[go_sem,ξ,ζ]
 exact hr3
namespace NS
theorem has_i {a b:Option Rat} {q:Rat}:(NS.i a b).has q=true↔(∀x,a=some x→x≤q)∧(∀x,b=some x→q≤x):=by
 cases a<;>cases b<;>simp[has]<;>grind
theorem ne_has {a b:Option Rat} (h:ordO a b=true):∃q,(NS.i a b).has q=true:=by
 cases a with
 | none=>cases b with
  |none=>exact⟨0,by simp[has]⟩
  |some b=>exact⟨b,by simp[has]<;>grind⟩
 | some a=>cases b with
  |none=>exact⟨a,by simp[has]<;>grind⟩
  |some b=>exact⟨a,by simp[ordO] at h;simp[has];grind⟩
theorem low_has {b:Option Rat} (c:Rat):∃q,q < c∧(NS.i none b).has q=true:=by
 cases b with
 |none=>exact⟨c - 1,by grind,by simp[has]⟩
 |some b=>exact⟨min (c - 1) b,by grind,by simp[has]<;>grind⟩
theorem high_has {a:Option Rat} (c:Rat):∃q,c < q∧(NS.i a none).has q=true:=by
 cases a with
 |none=>exact⟨c+1,by grind,by simp[has]⟩
 |some a=>exact⟨max (c+1) a,by grind,by simp[has]<;>grind⟩
theorem lo_has {a:Rat} {b:Option Rat} (h:ordO (some a) b=true):(NS.i (some a) b).has a=true:=by
 cases b with
 |none=>simp[has]<;>grind
 |some b=>simp[ordO] at h;simp[has];grind
theorem hi_has {a:Option Rat} {b:Rat} (h:ordO a (some b)=true):(NS.i a (some b)).has b=true:=by
 cases a with
 |none=>simp[has]<;>grind
 |some a=>simp[ordO] at h;simp[has];grind
theorem within_iff {x y:NS} (hx:x.ok):x.within y=true↔∀q,x.has q=true→y.has q=true:=by
 cases x with
 |e=>simp[within,has]
 | i a b =>
  cases y with
  | e=>
   obtain⟨q,hq⟩:=ne_has hx
   simp only[within,has,qAw,false_iff]
   exact fun h=>h q hq
  | i c d =>
   constructor
   ·intro h q hq
    rw[has_i] at hq ⊢
    cases a<;>cases b<;>cases c<;>cases d<;>simp[within,lowIn,highIn] at h hq ⊢<;>grind
   ·intro h
    have h1:lowIn c a=true:=by
     cases c with
     |none=>rfl
     | some c=>cases a with
      | none=>
       obtain⟨q,hc,hq⟩:=low_has (b:=b) c
       have:=has_i.1 (h q hq)
       have:=this.1 c rfl
       grind
      | some a=>
       have:=has_i.1 (h a (lo_has hx))
       have:=this.1 c rfl
       simp[lowIn,highIn];grind
    have h2:highIn d b=true:=by
     cases d with
     |none=>rfl
     | some d=>cases b with
      | none=>
       obtain⟨q,hc,hq⟩:=high_has (a:=a) d
       have:=has_i.1 (h q hq)
       have:=this.2 d rfl
       grind
      | some b=>
       have:=has_i.1 (h b (hi_has hx))
       have:=this.2 d rfl
       simp[lowIn,highIn];grind
    simp only[within,h1,h2,Bool.and_self]
theorem anti {x y:NS} (hx:x.ok) (hy:y.ok) (h1:x.within y=true) (h2:y.within x=true):x=y:=by
 cases x with
 | e=>cases y with
  |e=>rfl
  |i c d=>cases h2
 | i a b=>cases y with
  |e=>cases h1
  | i c d=>
   cases a<;>cases b<;>cases c<;>cases d<;>simp[within,lowIn,highIn] at h1 h2 ⊢<;>grind
theorem ext {x y:NS} (hx:x.ok) (hy:y.ok) (h:∀q,x.has q=y.has q):x=y:=
 anti hx hy ((within_iff hx).2 fun q k=>by rw[←h];exact k) ((within_iff hy).2 fun q k=>by rw[h];exact k)
end NS
namespace NS
end NS
def Bd (f:FuncId) (args:Array Value) (h:PH):Except Int Bool→Prop
 |.ok b=>Spec mach f args h (fun v _=>v=.bool b) NP
 |.error e=>Spec mach f args h NR (fail e)
def Br (r:Value):Except Int Bool→Prop
 |.ok b=>r=.tuple #[.bool b,.int .i64 0]
 |.error e=>r=.tuple #[.bool false,.int .i64 e]
theorem Br.sa {r:Value} {o:Except Int Bool} (k:Br r o):∃b e,r=.tuple #[.bool b,.int .i64 e]∧Br (.tuple #[.bool b,.int .i64 e]) o:=by
 cases o with
 |ok b=>exact⟨_,_,k,rfl⟩
 |error e=>exact⟨_,_,k,rfl⟩
theorem tU {h:PH} {f:FuncId} {cap:Array Value} {o:Except Int Bool} (g:Bd f cap h o):Spec mach 67 #[.func (.func f) #[] cap] h (fun r _=>Br r o) NP:=by
 cases o with
 |ok b=>exact tryBo_ok g (fun v h' _ r=>by subst r;exact⟨⟨b,rfl,rfl⟩,rfl⟩)
 |error e=>exact FZ g (fun _ _=>rfl)
theorem Sf.sa {h:PH} {v:Value} {s:PS} (r:Sf h v s):∃b1 a1 m1 c1 a2 m2 c2 b2 a3 m3 c3 a4 m4 c4,v=.agg #[.bool b1,.slice a1 m1 c1,.slice a2 m2 c2,.bool b2,.slice a3 m3 c3,.slice a4 m4 c4,.bool s.l,.bool s.u,.bool s.e]∧
  Fr h (.agg #[.bool b1,.slice a1 m1 c1,.slice a2 m2 c2]) s.lo∧Fr h (.agg #[.bool b2,.slice a3 m3 c3,.slice a4 m4 c4]) s.hi:=by
 obtain⟨b1,x1,y1,b2,x2,y2,rfl,h1,h2⟩:=r
 obtain⟨_,_,_,_,_,_,_,e1,_⟩:=h1.sa
 obtain⟨_,_,_,_,_,_,_,e2,_⟩:=h2.sa
 simp only[Value.agg.injEq,Array.mk.injEq,List.cons.injEq,and_true] at e1 e2
 obtain⟨_,rfl,rfl⟩:=e1
 obtain⟨_,rfl,rfl⟩:=e2
 exact⟨_,_,_,_,_,_,_,_,_,_,_,_,_,_,rfl,h1,h2⟩

def NS.size:NS→NS
 |.e=>.e
 |.i a b=>if 0≤(NS.i a b).slo then .i a b else if (NS.i a b).shi≤0 then (NS.i a b).minus else .i (some ((0:Int):Rat)) (jmax (a.map (-·)) b)
theorem NS.size_i {a b:Option Rat}:(NS.i a b).size=if 0≤(NS.i a b).slo then .i a b else if (NS.i a b).shi≤0 then (NS.i a b).minus else .i (some ((0:Int):Rat)) (jmax (a.map (-·)) b):=rfl
theorem NS.le.size {x:NS} {k:Nat} (hk:1≤k) (h:x.le k):x.size.le k:=by
 cases x with
 |e=>exact h
 | i a b =>
  rw[NS.size_i]
  split
  ·exact h
  ·split
   ·exact h.minus
   ·rw[NS.le_i] at h ⊢
    refine⟨fun q e=>?_,fun q e=>?_⟩
    ·cases e;exact χ (by decide) hk
    ·cases a with
     |none=>cases e
     | some a=>
      cases b with
      |none=>cases e
      |some b=>cases e;exact px (by rw[cz];exact h.1 _ rfl) (h.2 _ rfl)
def NS.fin:NS→Bool
 |.e=>true
 |.i a b=>!a.isNone && !b.isNone
def RI.bo (x:RI) (b:Bool):Except Int Bool:=bif x.big then .error 1 else .ok b
theorem IsEmpty1 {h0 h:PH} [Le h0 h] {v:Value} {x:RI} {b1:Nat} {cs:List Value} (hv:Iv h0 v x) (hc:v=.agg cs.toArray) (hl:cs.length=8) (hb1:h b1=some cs.toArray):
  Bd 91 #[.pointer (some ⟨b1,0,none⟩)] h (x.bo x.set.void):=by
 subst hc
 unfold RI.bo
 cases g:x.big with
 | true=>
  dsimp only[cond_true]
  refine Spec.enter (args:=[_]) (n:=5) Tryz.func91 rfl (by kernel_rfl) rfl (by simp) [.tmp 1] rfl (fun C _=>?_)
  repeat (first |(refine wo rfl (fun k hk=>?_);simp(disch:=omega) only[go_sem,ξ,ζ];apply hk;clear hk k) |refine wkt rfl ?_ |refine wk0 ?_ |refine rg rfl rfl (fun K hK=>?_) |((first |refine ae ?_ |refine ac ?_);simp(disch:=decide) only[qs,qb,if_true,if_false,reduceIte]) |refine ah rfl (fun K hK=>?_) |refine ct rfl ?_ |((try simp(disch:=omega) only[go_sem,ξ,ζ]);(first |apply hK |(clear hK;apply hK) |(clear hK;clear hK;apply hK));clear hK;(try clear K);(try dsimp only[ag,qs,qb])))
  refine wk (fun k hk=>?_);simp(disch:=omega) only[go_sem,ξ,ζ];refine⟨cs,hl,fG hb1,?_⟩;apply hk;clear hk k;(repeat (first |(refine wo rfl (fun k hk=>?_);simp(disch:=omega) only[go_sem,ξ,ζ];apply hk;clear hk k) |refine wkt rfl ?_));(try refine wk0 ?_)
  exact cF rfl rfl rfl rfl (by exact fF hv g) (fun _ _ h=>h)
 | false=>
  dsimp only[cond_false]
  have kR:=fun {h} [Le h0 h]=>dK (h:=h) hv g
  generalize x.set=s at*
  cases s with
  | e=>
   refine Spec.enter (args:=[_]) (n:=5) Tryz.func91 rfl (by kernel_rfl) rfl (by simp) [.tmp 1] rfl (fun C _=>?_)
   repeat (first |(refine wo rfl (fun k hk=>?_);simp(disch:=omega) only[go_sem,ξ,ζ];apply hk;clear hk k) |refine wkt rfl ?_ |refine wk0 ?_ |refine rg rfl rfl (fun K hK=>?_) |((first |refine ae ?_ |refine ac ?_);simp(disch:=decide) only[qs,qb,if_true,if_false,reduceIte]) |refine ah rfl (fun K hK=>?_) |refine ct rfl ?_ |((try simp(disch:=omega) only[go_sem,ξ,ζ]);(first |apply hK |(clear hK;apply hK) |(clear hK;clear hK;apply hK));clear hK;(try clear K);(try dsimp only[ag,qs,qb])))
   refine wk (fun k hk=>?_);simp(disch:=omega) only[go_sem,ξ,ζ];refine⟨cs,hl,fG hb1,?_⟩;apply hk;clear hk k;(repeat (first |(refine wo rfl (fun k hk=>?_);simp(disch:=omega) only[go_sem,ξ,ζ];apply hk;clear hk k) |refine wkt rfl ?_));(try refine wk0 ?_)
   refine cN rfl rfl rfl rfl (by exact kR) ?_;rintro s1 h1 st1 hs1;obtain⟨_,_,_,_,_,_,_,_,_,_,_,_,_,_,_,_,rfl,hs1⟩:=hs1.ee
   repeat (first |(refine wo rfl (fun k hk=>?_);simp(disch:=omega) only[go_sem,ξ,ζ];apply hk;clear hk k) |refine wkt rfl ?_ |refine wk0 ?_ |refine rg rfl rfl (fun K hK=>?_) |((first |refine ae ?_ |refine ac ?_);simp(disch:=decide) only[qs,qb,if_true,if_false,reduceIte]) |refine ah rfl (fun K hK=>?_) |refine ct rfl ?_ |((try simp(disch:=omega) only[go_sem,ξ,ζ]);(first |apply hK |(clear hK;apply hK) |(clear hK;clear hK;apply hK));clear hK;(try clear K);(try dsimp only[ag,qs,qb])))
   refine ai ?_;simp(disch:=omega) only[go_sem,ξ,ζ]
   all_goals rfl
  | i a b=>
   have kR:=fun {h} [Le h0 h]=>(kR (h:=h)).mono (R':=fun v h'=>Sn h' v (.i a b)) (E':=NP) (fun _ _ _ k=>k) (fun _ _ _ k=>k)
   cases a<;>cases b<;>
   ·refine Spec.enter (args:=[_]) (n:=5) Tryz.func91 rfl (by kernel_rfl) rfl (by simp) [.tmp 1] rfl (fun C _=>?_)
    repeat (first |(refine wo rfl (fun k hk=>?_);simp(disch:=omega) only[go_sem,ξ,ζ];apply hk;clear hk k) |refine wkt rfl ?_ |refine wk0 ?_ |refine rg rfl rfl (fun K hK=>?_) |((first |refine ae ?_ |refine ac ?_);simp(disch:=decide) only[qs,qb,if_true,if_false,reduceIte]) |refine ah rfl (fun K hK=>?_) |refine ct rfl ?_ |((try simp(disch:=omega) only[go_sem,ξ,ζ]);(first |apply hK |(clear hK;apply hK) |(clear hK;clear hK;apply hK));clear hK;(try clear K);(try dsimp only[ag,qs,qb])))
    refine wk (fun k hk=>?_);simp(disch:=omega) only[go_sem,ξ,ζ];refine⟨cs,hl,fG hb1,?_⟩;apply hk;clear hk k;(repeat (first |(refine wo rfl (fun k hk=>?_);simp(disch:=omega) only[go_sem,ξ,ζ];apply hk;clear hk k) |refine wkt rfl ?_));(try refine wk0 ?_)
    refine cN rfl rfl rfl rfl (by exact kR) ?_;rintro s1 h1 st1 hs1;obtain⟨_,_,_,_,_,_,_,_,_,_,_,_,_,_,rfl,e1,e2⟩:=hs1.ie;(repeat (first |(refine wo rfl (fun k hk=>?_);simp(disch:=omega) only[go_sem,ξ,ζ];apply hk;clear hk k) |refine wkt rfl ?_));(try refine wk0 ?_)
    (try (simp(disch:=omega) only[go_sem,ξ,ζ]));apply hK;clear hK;(try clear K);(try dsimp only[ag,qs])
    dsimp only[Option.isNone]
    repeat (first |(refine wo rfl (fun k hk=>?_);simp(disch:=omega) only[go_sem,ξ,ζ];apply hk;clear hk k) |refine wkt rfl ?_ |refine wk0 ?_ |refine rg rfl rfl (fun K hK=>?_) |((first |refine ae ?_ |refine ac ?_);simp(disch:=decide) only[qs,qb,if_true,if_false,reduceIte]) |refine ah rfl (fun K hK=>?_) |refine ct rfl ?_ |((try simp(disch:=omega) only[go_sem,ξ,ζ]);(first |apply hK |(clear hK;apply hK) |(clear hK;clear hK;apply hK));clear hK;(try clear K);(try dsimp only[ag,qs,qb])))
    refine ai ?_;simp(disch:=omega) only[go_sem,ξ,ζ]
    all_goals rfl
theorem sI {h0 h:PH} [Le h0 h] {v:Value} {x:RI} (hv:Iv h0 v x):Spec mach 38 #[v] h (fun r _=>Br r (x.bo x.set.void)) NP:=by
 have hv0:=hv
 obtain⟨a1,m1,c1,a2,m2,c2,a3,m3,c3,a4,m4,c4,rfl,_,_⟩:=hv.sa
 refine Spec.enter (args:=[_]) (n:=8) Tryz.func38 rfl (by kernel_rfl) rfl (by simp) [.tmp 2,.tmp 3] rfl (fun C _=>?_)
 repeat (first |(refine rg rfl rfl (fun K hK=>?_);(repeat (first |(refine wo rfl (fun k hk=>?_);simp(disch:=omega) only[go_sem,ξ,ζ];apply hk;clear hk k) |refine wkt rfl ?_));(try refine wk0 ?_);apply hK;clear hK K;(try dsimp only[ag,qs,qb])) |((first |refine ae ?_ |refine ac ?_);simp(disch:=decide) only[qs,qb,if_true,if_false,reduceIte]) |refine ah rfl (fun K hK=>?_) |refine ct rfl ?_ |((first |refine hK _ _ ?_ |(clear hK;refine hK _ _ ?_) |(clear hK;clear hK;refine hK _ _ ?_));clear hK;(try clear K)))
 refine fk [.p 0,.o 0,.o 1,.o 2,.o 3,.o 4,.o 5] rfl rfl (fun K hK=>?_);(repeat (first |(refine wo rfl (fun k hk=>?_);simp(disch:=omega) only[go_sem,ξ,ζ];apply hk;clear hk k) |refine wkt rfl ?_));(try refine wk0 ?_)
 refine wkp ?_;simp(disch:=omega) only[go_sem,ξ,ζ];intro b1 h1 st1 hb1;(repeat (first |(refine wo rfl (fun k hk=>?_);simp(disch:=omega) only[go_sem,ξ,ζ];apply hk;clear hk k) |refine wkt rfl ?_));(try refine wk0 ?_)
 have hb1:=hb1 (by simp)
 refine cN rfl rfl rfl rfl (by exact tU (IsEmpty1 (hv0.to (h':=h1)) rfl rfl hb1)) ?_;rintro r3 h3 st3 hr3;obtain⟨_,_,rfl,hr3⟩:=hr3.sa;(repeat (first |(refine wo rfl (fun k hk=>?_);simp(disch:=omega) only[go_sem,ξ,ζ];apply hk;clear hk k) |refine wkt rfl ?_));(try refine wk0 ?_)
 (try (simp(disch:=omega) only[go_sem,ξ,ζ]));apply hK;clear hK;(try clear K);(try dsimp only[ag,qs])
 refine ai ?_;simp(disch:=omega) only[go_sem,ξ,ζ]
 exact hr3
set_option maxHeartbeats 8000000
theorem OwnRat_spec {h0 h:PH} [Le h0 h] {v:Value} {neg:Bool} {n d:Nat} (hv:Rw h0 v neg n d):Spec mach 103 #[v] h (fun v h'=>Rw h' v neg n d) NP:=by
 obtain⟨a,c,xs,a',c',ys,rfl,hx,hy,rfl,rfl,lx,ly⟩:=hv
 have k1:=fun {h} [Le h0 h]=>CloneA (h:=h) hx (by omega)
 have k2:=fun {h} [Le h0 h]=>CloneA (h:=h) hy (by omega)
 refine Spec.go [(1,.o [0,1,2,3,5,6,4,7,8,9])] Tryz.func103 rfl rfl (by kernel_rfl) fun C _=>?_
 try simp(maxSteps:=999999) (disch:=omega) only[go_sem,ξ,ζ]
 refine caN (by exact k1) ?_;rintro v1 h1 s1 ⟨_,_,rfl,q1⟩
 try simp(maxSteps:=999999) (disch:=omega) only[go_sem,ξ,ζ]
 refine caN (by exact k2) ?_;rintro v2 h2 s2 ⟨_,_,rfl,q2⟩
 try simp(maxSteps:=999999) (disch:=omega) only[go_sem,ξ,ζ]
 exact⟨_,_,_,_,_,_,rfl,q1.to,q2,rfl,rfl,lx,ly⟩
theorem Own_spec {h0 h:PH} [Le h0 h] {v:Value} {x:RI} (hv:Iv h0 v x):Spec mach 49 #[v] h (fun v h'=>Iv h' v x) NP:=by
 obtain⟨_,_,_,_,_,_,_,_,_,_,_,_,rfl,h1,h2⟩:=hv.sa
 have k1:=fun {h} [Le h0 h]=>OwnRat_spec (h:=h) h1
 have k2:=fun {h} [Le h0 h]=>OwnRat_spec (h:=h) h2
 refine Spec.go [(1,.o [0,1,3,4,6,7,8,9,2,5,10,11])] Tryz.func49 rfl rfl (by kernel_rfl) fun C _=>?_
 try simp(maxSteps:=999999) (disch:=omega) only[go_sem,ξ,ζ]
 refine caN (by exact k1) ?_;rintro v1 h1 s1 q1;obtain⟨_,_,_,_,_,_,_,rfl,q1⟩:=q1.sa
 try simp(maxSteps:=999999) (disch:=omega) only[go_sem,ξ,ζ]
 refine caN (by exact k2) ?_;rintro v2 h2 s2 q2;obtain⟨_,_,_,_,_,_,_,rfl,q2⟩:=q2.sa
 try simp(maxSteps:=999999) (disch:=omega) only[go_sem,ξ,ζ]
 exact Iv.mk q1.to q2 _ _
abbrev Sd1:=ByteArray×RI
def Sv (h:PH) (v:Value) (s:Sd1):Prop:=∃b1 a1 m1 c1 a2 m2 c2 b2 a3 m3 c3 a4 m4 c4 l u,v=.agg #[.string s.1,.bool b1,.slice a1 m1 c1,.slice a2 m2 c2,.bool b2,.slice a3 m3 c3,.slice a4 m4 c4,.bool l,.bool u]∧Iv h (.agg #[.bool b1,.slice a1 m1 c1,.slice a2 m2 c2,.bool b2,.slice a3 m3 c3,.slice a4 m4 c4,.bool l,.bool u]) s.2
def Boxv (h:PH) (v:Value) (l:List Sd1):Prop:=∃a c,v=.slice a l.length c∧l.length≤2^30∧∀i s,l[i]?=some s→∃ad b1 a1 m1 c1 a2 m2 c2 b2 a3 m3 c3 a4 m4 c4 e u,a=some ad∧
 (∀j v,([.string s.1,.bool b1,.slice a1 m1 c1,.slice a2 m2 c2,.bool b2,.slice a3 m3 c3,.slice a4 m4 c4,.bool e,.bool u]:List Value)[j]?=some v→h.at ((ad.add (i*9)).add j)=some v)∧
 Iv h (.agg #[.bool b1,.slice a1 m1 c1,.slice a2 m2 c2,.bool b2,.slice a3 m3 c3,.slice a4 m4 c4,.bool e,.bool u]) s.2
theorem Boxv.to {h h':PH} {v:Value} {l:List Sd1} (r:Boxv h v l) [t:Le h h']:Boxv h' v l:=by
 obtain⟨a,c,rfl,hl,k⟩:=r
 refine⟨a,c,rfl,hl,fun i s hi=>?_⟩
 obtain⟨ad,b1,a1,m1,c1,a2,m2,c2,b2,a3,m3,c3,a4,m4,c4,e,u,h1,h2,h3⟩:=k i s hi
 exact⟨ad,b1,a1,m1,c1,a2,m2,c2,b2,a3,m3,c3,a4,m4,c4,e,u,h1,fun j v hj=>t.sub.at (h2 j v hj),h3.to⟩
theorem Boxv.sa {h:PH} {v:Value} {l:List Sd1} (r:Boxv h v l):∃a m c,v=.slice a m c:=let ⟨a,c,h1,_⟩:=r;⟨a,_,c,h1⟩
theorem add_1 {a:Addr} {n j:Nat}:({block:=(a.add n).block,off:=(a.add n).off+1}:Addr).add j=(a.add n).add (j+1):=by
 unfold Addr.add
 split<;>split<;>simp_all<;>omega
def fnd (l:List Sd1) (s:ByteArray):Option Nat:=l.findIdx? fun x=>x.1.toList == s.toList
theorem Index1 {h0 h:PH} [Le h0 h] {v:Value} {x:Sd1} {s:ByteArray} {b:Nat} (hv:Sv h0 v x) (hb:h b=some #[.string s]):Spec mach 93 #[v,.pointer (some ⟨b,0,none⟩)] h (fun r _=>r=.bool (x.1.toList == s.toList)) NP:=by
 obtain⟨_,_,_,_,_,_,_,_,_,_,_,_,_,_,_,_,rfl,_⟩:=hv
 refine Spec.go [] Tryz.func93 rfl rfl (by kernel_rfl) fun C _=>?_
 try simp(maxSteps:=999999) (disch:=omega) only[go_sem,ξ,ζ]
 refine aE (aK hb) ?_
 try simp(maxSteps:=999999) (disch:=omega) only[go_sem,ξ,ζ]
theorem IndexFunc_spec {h0 h:PH} [Le h0 h] {v:Value} {l:List Sd1} {s:ByteArray} {b:Nat} (hv:Boxv h0 v l) (hb:h0 b=some #[.string s]):Spec mach 92 #[v,.func (.func 93) #[] #[.pointer (some ⟨b,0,none⟩)]] h (fun r _=>r=.int .i64 (match fnd l s with |some i=>(i:Int) |none=>-1)) NP:=by
 obtain⟨a,c,rfl,hl,k⟩:=hv
 refine Spec.go [] Tryz.func92 rfl rfl (by kernel_rfl) fun C _=>?_
 try simp(maxSteps:=999999) (disch:=omega) only[go_sem,ξ,ζ]
 refine lp [] (fun i:Nat=>⟨[(0,.v (.slice a l.length c)),(1,.v (.func (.func 93) #[] #[.pointer (some ⟨b,0,none⟩)])),(7,.v (.int .i64 l.length)),(8,.v (.int .i64 i))],[]⟩) (fun i h'=>Le h0 h'∧i≤l.length∧∀j x,j < i→l[j]?=some x→(x.1.toList == s.toList)=false) (fun i=>l.length - i) 0 ?_ ⟨inferInstance,qBh _,fun j w hj=>absurd hj (by omega)⟩ (by kernel_rfl) ?_
 ·try simp(maxSteps:=999999) (disch:=omega) only[go_sem,ξ,ζ]
  all_goals rfl
 rintro i h2 ⟨le2,hi,hj⟩
 by_cases hlt:(i:Int) < l.length
 ·obtain⟨x,hx⟩:∃x,l[i]?=some x:=⟨_,List.getElem?_eq_getElem (by omega)⟩
  obtain⟨ad,b1,a1,m1,c1,a2,m2,c2,b2,a3,m3,c3,a4,m4,c4,e,u,rfl,hat,hiv⟩:=k i x hx
  try simp(maxSteps:=999999) (disch:=omega) only[go_sem,ξ,ζ,hlt,decide_true]
  refine Exists.intro [_,_,_,_,_,_,_,_,_] (And.intro rfl (And.intro (fun j v hj=>le2.sub.at (hat j v hj)) ?_))
  try simp(maxSteps:=999999) (disch:=omega) only[go_sem,ξ,ζ]
  refine caN (by exact Index1 (h0:=h2) ⟨_,_,_,_,_,_,_,_,_,_,_,_,_,_,_,_,rfl,hiv.to⟩ (le2.sub _ _ hb)) ?_;rintro v3 h3 s3 rfl
  try simp(maxSteps:=999999) (disch:=omega) only[go_sem,ξ,ζ]
  cases e:(x.1.toList == s.toList) with
  | true=>
   have ef:fnd l s=some i:=by
    unfold fnd
    refine List.findIdx?_eq_some_iff_getElem.2 ⟨by omega,?_,fun j k=>?_⟩
    ·rw[List.getElem?_eq_getElem (by omega)] at hx
     cases hx;exact e
    ·have:=hj j _ k (List.getElem?_eq_getElem (by omega))
     simpa using this
   rw[ef]
   try simp(maxSteps:=999999) (disch:=omega) only[go_sem,ξ,ζ,e]
   all_goals rfl
  | false=>
   try simp(maxSteps:=999999) (disch:=omega) only[go_sem,ξ,ζ,e]
   dsimp only[lpE];refine⟨i+1,?_,⟨inferInstance,by omega,fun j y k hy=>?_⟩,by omega⟩
   ·try simp(maxSteps:=999999) (disch:=omega) only[go_sem,ξ,ζ]
    all_goals rfl
   ·rcases qBj j i with g |g
    ·exact hj j y g hy
    ·obtain rfl:j=i:=by omega
     rw[hx] at hy
     cases hy
     exact e
 ·have ef:fnd l s=none:=by
   unfold fnd
   refine List.findIdx?_eq_none_iff.2 fun x hx=>?_
   obtain⟨j,h⟩:=List.getElem?_of_mem hx
   have:=(List.getElem?_eq_some_iff.1 h).1
   exact hj j x (by omega) h
  rw[ef]
  try simp(maxSteps:=999999) (disch:=omega) only[go_sem,ξ,ζ,hlt,decide_false]
  all_goals rfl
theorem Index_spec {h0 h:PH} [Le h0 h] {v:Value} {l:List Sd1} {s:ByteArray} (hv:Boxv h0 v l):Spec mach 40 #[v,.string s] h (fun r _=>r=.int .i64 (match fnd l s with |some i=>(i:Int) |none=>-1)) NP:=by
 have hv0:=hv
 obtain⟨_,_,_,rfl⟩:=hv.sa
 refine Spec.go [(1,.t (.p 0 (.s [0,1,2,3] .d)))] Tryz.func40 rfl rfl (by kernel_rfl) fun C _=>?_
 try simp(maxSteps:=999999) (disch:=omega) only[go_sem,ξ,ζ]
 intro b h1 st1 hb
 try simp(maxSteps:=999999) (disch:=omega) only[go_sem,ξ,ζ]
 have hb:=hb (by simp)
 refine caN (by exact IndexFunc_spec (h0:=h1) hv0.to hb) ?_;rintro v1 h2 s2 rfl
 try simp(maxSteps:=999999) (disch:=omega) only[go_sem,ξ,ζ]
def Fnd (h:PH) (r:Value) (l:List Sd1) (s:ByteArray):Prop:=match fnd l s with
 |none=>r=.tuple #[zIv,.bool false]
 |some i=>∃v x,l[i]?=some x∧r=.tuple #[v,.bool true]∧Iv h v x.2
theorem BFind_spec {h0 h:PH} [Le h0 h] {v:Value} {l:List Sd1} {s:ByteArray} (hv:Boxv h0 v l):Spec mach 174 #[v,.string s] h (fun r h'=>Fnd h' r l s) NP:=by
 have kI:=fun {h} [Le h0 h]=>Index_spec (h:=h) (s:=s) hv
 unfold Fnd
 obtain⟨a,c,rfl,hl,k⟩:=hv
 cases e:fnd l s with
 | none=>
  rw[e] at kI
  refine Spec.go [] Tryz.func174 rfl rfl (by kernel_rfl) fun C _=>?_
  try simp(maxSteps:=999999) (disch:=omega) only[go_sem,ξ,ζ]
  refine caN (by exact kI) ?_;rintro v1 h1 s1 rfl
  try simp(maxSteps:=999999) (disch:=omega) only[go_sem,ξ,ζ]
  all_goals rfl
 | some i=>
  rw[e] at kI
  have hi:i < l.length:=(List.findIdx?_eq_some_iff_getElem.1 e).1
  obtain⟨x,hx⟩:∃x,l[i]?=some x:=⟨_,List.getElem?_eq_getElem hi⟩
  obtain⟨ad,b1,a1,m1,c1,a2,m2,c2,b2,a3,m3,c3,a4,m4,c4,f,u,rfl,hat,hiv⟩:=k i x hx
  refine Spec.go [] Tryz.func174 rfl rfl (by kernel_rfl) fun C _=>?_
  try simp(maxSteps:=999999) (disch:=omega) only[go_sem,ξ,ζ]
  refine caN (by exact kI) ?_;rintro v1 h1 s1 rfl
  try simp(maxSteps:=999999) (disch:=omega) only[go_sem,ξ,ζ]
  refine Exists.intro [_,_,_,_,_,_,_,_] (And.intro rfl (And.intro (fun j v hj=>by rw[add_1];exact s1.sub.at ((inferInstance:Le h0 h).sub.at (hat (j+1) v hj))) ?_))
  try simp(maxSteps:=999999) (disch:=omega) only[go_sem,ξ,ζ]
  refine caN (by exact Own_spec (hiv.to (h':=h1))) ?_;rintro v2 h2 s2 q2;obtain⟨_,_,_,_,_,_,_,_,_,_,_,_,rfl,q3⟩:=q2.sa
  try simp(maxSteps:=999999) (disch:=omega) only[go_sem,ξ,ζ]
  exact⟨_,_,hx,rfl,q2⟩
open Go.Proofs Go.Proofs.YtbeoaipbdfbmoaaGreatDoor
open Go.ChangeShapes Go.WideShapes Go.ChangeAt Go.RowKit
theorem flSi:flds Tryz.prog 82=some [(9,0),(27,1)]:=by kernel_rfl
theorem unSi:Tryz.prog.underlying 22=some (.slice 82):=by kernel_rfl
theorem unSt:Tryz.prog.underlying 9=some .string:=by kernel_rfl
theorem ceSt:Tryz.prog.cellsOf 9=1:=by kernel_rfl
theorem ceSi:Tryz.prog.cellsOf 82=9:=by kernel_rfl
section
variable {H:Type} {enc:TypeId×Value→H} {W:World} {sp:Nat→Bool} {held:Bool}
theorem open_side {fuel:Nat} {cs:List Value} {x:DataW H×List MemPlace} (h:DataW.trod enc Tryz.prog W 0 sp held fuel 82 cs=some x) {B:Nat} (hB:B≤1048576) (hk:Rows.uptoBulk x.1≤B):
  ∃ (s:ByteArray) (y:RI) (a1:Option Addr) (m1 c1:Nat) (a2:Option Addr) (m2 c2:Nat) (a3:Option Addr) (m3 c3:Nat) (a4:Option Addr) (m4 c4:Nat),cs=[.string s,.bool y.n1,.slice a1 m1 c1,.slice a2 m2 c2,.bool y.n2,.slice a3 m3 c3,.slice a4 m4 c4,.bool y.l,.bool y.u]∧
   Iv (pub W) (.agg #[.bool y.n1,.slice a1 m1 c1,.slice a2 m2 c2,.bool y.n2,.slice a3 m3 c3,.slice a4 m4 c4,.bool y.l,.bool y.u]) y:=by
 obtain⟨fs,hu,hf⟩:=flds_some flSi
 obtain⟨xs,n,rfl,rfl,hl,hsz,hg⟩:=DataW.trod_struct hu h
 rw[ceSi] at hl
 have hfs:fs.size=2:=by
  have:=congrArg List.length hf
  simpa using this
 match cs,hl with
 |[c0,c1,c2,c3,c4,c5,c6,c7,c8],_=>
 have get:∀(i t o:Nat),(fs.toList.map fun f=>(f.type,f.offset))[i]?=some (t,o)→∃f:Field,fs[i]?=some f∧f.type=t∧f.offset=o:=by
  intro i t o hi
  rw[List.getElem?_map,Option.map_eq_some_iff] at hi
  obtain⟨f,h1,h2⟩:=hi
  cases h2
  exact⟨f,by simpa using h1,rfl,rfl⟩
 obtain⟨f0,k0,e0,o0⟩:=get 0 9 0 (by rw[hf];rfl)
 obtain⟨f1,k1,e1,o1⟩:=get 1 27 1 (by rw[hf];rfl)
 have g0:=hg 0 f0 k0
 have g1:=hg 1 f1 k1
 rw[e0,o0,ceSt] at g0
 rw[e1,o1,ce26] at g1
 rw[hfs] at hsz
 match xs,hsz with
 |[y0,y1],_=>
 simp only[List.drop_zero,List.take_succ_cons,List.take_zero,List.drop_succ_cons,List.getElem?_cons_zero,List.getElem?_cons_succ] at g0 g1
 simp only[Rows.uptoBulk,List.map_cons,List.map_nil,Rows.uptoBulkAll] at hk
 obtain⟨s,e0,_⟩:=DataW.trod_string unSt g0
 obtain⟨y,hy⟩:=open_iv g1 hB (by omega)
 obtain⟨a1,m1,c1',a2,m2,c2',a3,m3,c3',a4,m4,c4',e2,_,_⟩:=hy.sa
 cases e0
 simp only[Value.agg.injEq,Array.mk.injEq,List.cons.injEq,and_true] at e2
 obtain⟨rfl,rfl,rfl,rfl,rfl,rfl,rfl,rfl⟩:=e2
 exact⟨s,y,a1,m1,c1',a2,m2,c2',a3,m3,c3',a4,m4,c4',rfl,hy⟩
theorem list_of {α:Type} (P:Nat→α→Prop):∀n,(∀i,i < n→∃s,P i s)→∃l:List α,l.length=n∧∀i s,l[i]?=some s→P i s:=by
 intro n
 induction n with
 |zero=>exact fun _=>⟨[],rfl,fun i s h=>by simp at h⟩
 | succ n ih=>
  intro h
  obtain⟨l,hl,k⟩:=ih fun i hi=>h i (by omega)
  obtain⟨s,hs⟩:=h n (by omega)
  refine⟨l ++[s],by simp[hl],fun i t hi=>?_⟩
  rcases qBj i l.length with g |g
  ·rw[List.getElem?_append_left g] at hi;exact k i t hi
  ·have:i < (l ++[s]).length:=(List.getElem?_eq_some_iff.1 hi).1
   simp only[qAp,List.length_singleton] at this
   obtain rfl:i=l.length:=by omega
   rw[List.getElem?_append_right (η _),Nat.sub_self] at hi
   cases hi;rw[hl];exact hs
theorem open_box {fuel:Nat} {v:Value} {x:DataW H×List MemPlace} (h:DataW.trod enc Tryz.prog W 0 sp held fuel 22 [v]=some x) {B:Nat} (hB:B≤1048576) (hk:Rows.uptoBulk x.1≤B):
  ∃l:List Sd1,Boxv (pub W) v l:=by
 rcases DataW.trod_slice unSi h with⟨e,_⟩ |⟨a,len,cap,elems,rest,n,_,e,rfl,_,hl,hm,hlen,hel,_,_⟩
 ·cases e
  exact⟨[],none,0,rfl,by simp,fun i s h=>by simp at h⟩
 cases e
 simp only[Rows.uptoBulk] at hk
 have b1:=bulk_len (H:=H) (elems.map (·.1))
 rw[List.length_map,hlen] at b1
 obtain⟨l,hll,hP⟩:=list_of (fun i (s:Sd1)=>∃(a1:Option Addr) (m1 c1:Nat) (a2:Option Addr) (m2 c2:Nat) (a3:Option Addr) (m3 c3:Nat) (a4:Option Addr) (m4 c4:Nat),
   (∀j v,([.string s.1,.bool s.2.n1,.slice a1 m1 c1,.slice a2 m2 c2,.bool s.2.n2,.slice a3 m3 c3,.slice a4 m4 c4,.bool s.2.l,.bool s.2.u]:List Value)[j]?=some v→(pub W).at ((a.add (i*9)).add j)=some v)∧
   Iv (pub W) (.agg #[.bool s.2.n1,.slice a1 m1 c1,.slice a2 m2 c2,.bool s.2.n2,.slice a3 m3 c3,.slice a4 m4 c4,.bool s.2.l,.bool s.2.u]) s.2) len fun i hi=>by
  have he:=hel i hi
  obtain⟨y,hy⟩:∃y,elems[i]?=some y:=⟨_,List.getElem?_eq_getElem (by omega)⟩
  rw[hy,Option.bind_eq_some_iff,ceSi] at he
  obtain⟨cs,hc,ht⟩:=he
  have hb:=bulk_mem (d:=y.1) (l:=elems.map (·.1)) (List.mem_map.2 ⟨y,List.mem_of_getElem? hy,rfl⟩)
  obtain⟨s,z,a1,m1,c1,a2,m2,c2,a3,m3,c3,a4,m4,c4,rfl,hz⟩:=open_side ht hB (by omega)
  have hc':=World.cells?_some hc
  refine⟨(s,z),a1,m1,c1,a2,m2,c2,a3,m3,c3,a4,m4,c4,fun j v hj=>?_,hz⟩
  have:j < 9:=(List.getElem?_eq_some_iff.1 hj).1
  rw[pub_at,hc'.2.2 j this]
  exact hj
 refine⟨l,some a,cap,by rw[hll],by omega,fun i s hi=>?_⟩
 obtain⟨a1,m1,c1,a2,m2,c2,a3,m3,c3,a4,m4,c4,q1,q2⟩:=hP i s hi
 exact⟨a,_,a1,m1,c1,a2,m2,c2,_,a3,m3,c3,a4,m4,c4,_,_,rfl,q1,q2⟩
end
open Go.RowKit (Below)
section
variable {M:Mach} {C:Ctx} {n:Nat} {S:AS} {h:PH} {β:Nat→Nat} {a:Act} {w:World} {Q:Exit→AS→PH→Prop} {E:List PanicEntry→PH→Prop}
def mkN (P:Program) (T:TypeId) (sz:Nat):Bool:=match P.underlying T with
 | some (.slice e)=>match P.info? e with
  | some i=>match i.zero with
   |some v=>i.size == sz && v.cells.size == sz && decide (1≤sz) && decide (1≤i.bytes) && decide (i.bytes≤2^20)
   |none=>false
  |none=>false
 |_=>false
theorem mkN_some {P:Program} {T:TypeId} {sz:Nat} (h:mkN P T sz=true):∃e i v,P.underlying T=some (.slice e)∧P.info? e=some i∧i.zero=some v∧i.size=sz∧v.cells.size=sz∧1≤sz∧1≤i.bytes∧i.bytes≤2^20:=by
 unfold mkN at h
 split at h
 ·rename_i e he
  split at h
  ·rename_i i hi
   split at h
   ·rename_i v hv
    simp only[φ,beq_iff_eq,decide_eq_true_eq] at h
    exact⟨e,i,v,he,hi,hv,h.1.1.1.1,h.1.1.1.2,h.1.1.2,h.1.2,h.2⟩
   ·cases h
  ·cases h
 ·cases h
def appN (sz:Nat) (S:AS) (h:PH) (x y:AV) (k:AS→PH→AV→Prop):Prop:=match y with
 | .s j off m _=>off+m*sz≤(S.box j).length∧1≤m∧(((S.box j).drop off).take (m*sz)).all Value.oneCell'=true∧match x with
  |.v (.slice none 0 0)=>m≤2^26∧∀(cap:Nat) (junk:List Value),m≤cap→m*sz+junk.length=cap*sz→k (S.push (((S.box j).drop off).take (m*sz) ++junk)) h (.s S.bx.length 0 m cap)
  |.s i off' len cap=>off'=0∧len≤cap∧1≤cap∧cap*sz=(S.box i).length∧len+m≤2^26∧∀(cap':Nat) (junk:List Value),len+m≤cap'→(len+m)*sz+junk.length=cap'*sz→
    k ((S.setBox i []).push ((S.box i).take (len*sz) ++((S.box j).drop off).take (m*sz) ++junk)) h (.s S.bx.length 0 (len+m) cap')
  |_=>False
 |_=>False
theorem im_appN (g:G M C n S h β a w) {o:Oper} (hd:∀d,o.dst=some d→d < n) {x y:Operand} {T U:TypeId} {sz:Nat} (ho:o.op=.call {callee:=.builtin .append,args:=#[x,y],argTypes:=#[T,U]})
  (hU:uk M.P U=.slice) (hz:mkN M.P T sz=true) {k:AS→PH→AV→Prop} (hk:appN sz S h (S.ev x) (S.ev y) k):ImOk M C n a w o E k:=by
 obtain⟨e,i,z,hE,hi,hzero,hs,hzc,h1,hb1,hb2⟩:=mkN_some hz
 obtain⟨e',hE'⟩:=oA hU
 unfold appN at hk
 split at hk
 case h_2=>exact hk.elim
 rename_i j off m mc hy
 obtain⟨hoff,hm1,hall,hk⟩:=hk
 have hj:j < S.bx.length:=g.wf_ev (by rw[hy];rfl)
 have hyv:=g.ev_s hy
 generalize hN:((S.box j).drop off).take (m*sz)=news at hall hk
 have hl:news.length=m*sz:=by subst hN;simp;omega
 have hsrc:∀w',G M C n S h β a w'→(Builtin.firstCells sz m (.slice (some ⟨β j,off,none⟩) m mc)).run M.P w'=.ok news.toArray w':=fun w' g'=>by
  simp only[Builtin.firstCells]
  have:=run_loadCells_list (P:=M.P) (w:=w') ⟨β j,off,none⟩ news (fun q v hq=>by
   rw[gF]
   refine g'.box_get hj ?_
   rw[←hN,List.getElem?_take] at hq
   split at hq
   ·rw[List.getElem?_drop] at hq;exact hq
   ·cases hq)
  rw[hl] at this
  exact this
 have hexec:∀v,a.eval x=v→execOp a.eval o=(do pure (.value (←Builtin.append_ #[T,U] o.type #[v,.slice (some ⟨β j,off,none⟩) m mc])):Sem Next):=by
  intro v hv
  subst hv
  simp[execOp,ho,resolve,invoke,builtin,hyv]
 have hgrown:∀(base:Option Addr) (len cap:Nat) (old:List Value) (S':AS),a.eval x=.slice base len cap→cap < len+m→len+m≤2^26→old.length=len*sz→
   (∀w',G M C n S h β a w'→(Builtin.firstCells sz len (.slice base len cap)).run M.P w'=.ok old.toArray w')→G M C n S' h β a w.drew→S'.bx.length=S.bx.length→
   (∀(cap':Nat) (junk:List Value),len+m≤cap'→(len+m)*sz+junk.length=cap'*sz→k (S'.push (old ++news ++junk)) h (.s S.bx.length 0 (len+m) cap'))→ImOk M C n a w o E k:=by
  intro base len cap old S' hx hlt hroom hol hold g1 hlen hk
  have gd:=g.below (gt w)
  have c1:¬(len+m≤cap):=by omega
  have c2:¬(((len+m:Nat):Int) > IntKind.i64.max∧(i.bytes=0)):=by omega
  have c3:¬(Builtin.nextslicecap (len+m) cap*i.bytes > 2^48):=by
   have:=qAk (next_le hlt) hb2
   omega
  have⟨q,hq⟩:∃q:Nat,(Builtin.append_ #[T,U] T #[.slice base len cap,.slice (some ⟨β j,off,none⟩) m mc]).run M.P w=.ok (.slice (some ⟨w.heap.size,0,none⟩) (len+m) (len+m+q)) (w.drew.alloc (.cells (old.toArray ++news.toArray ++Builtin.zeroCells z.cells q) e)):=by
   refine⟨w.tape w.drawn (.appendCap (len+m) cap e) % (2^63 - (len+m)),?_⟩
   simp only[Builtin.append_,Sem.run_bind,run_underlying hE,run_underlying hE',Result.andThen_ok,Sem.run_pure,sizeOf,typeInfo,run_program,hi,hs,Builtin.lenOf,
    List.getElem?_toArray,List.getElem?_cons_zero,List.getElem?_cons_succ,qAw,if_false,Bool.not_false,if_true,c1,false_or,c2,c3,run_choose,Question.forced,Question.cut,World.drew_eq,run_askRoom,hold _ gd,hsrc _ gd,
    zeroValue,hzero,Nat.add_sub_cancel_left,newRow,run_newObj,World.alloc_eq,World.size_drew]
  have hjl:(Builtin.zeroCells z.cells q).toList.length=q*sz:=by simp[Builtin.zeroCells,hzc]
  obtain⟨β',b1,b2,g'⟩:=g1.push (old ++news ++(Builtin.zeroCells z.cells q).toList) e
  refine .mk hd (v:=.slice (some ⟨w.heap.size,0,none⟩) (len+m) (len+m+q)) (x:=.s S.bx.length 0 (len+m) (len+m+q)) ?_ (.inr ((gt w).alloc (by rw[World.size_drew];exact η _) _)) (β':=β') (S':=S'.push (old ++news ++(Builtin.zeroCells z.cells q).toList)) (w':=w.drew.alloc (.cells (old ++news ++(Builtin.zeroCells z.cells q).toList).toArray e)) g' (.inr ?_) ?_ (hk _ _ (by omega) (by rw[hjl,←Nat.add_mul]))
  ·have hc:old.toArray ++news.toArray ++Builtin.zeroCells z.cells q=(old ++news ++(Builtin.zeroCells z.cells q).toList).toArray:=by simp
   rw[hc] at hq
   rw[hexec _ hx]
   have hty:∀(t:TypeId) (vs:Array Value),Builtin.append_ #[T,U] t vs=Builtin.append_ #[T,U] T vs:=fun _ _=>rfl
   simp only[Sem.run_bind,hty,hq,Result.andThen_ok,Sem.run_pure]
  ·simp only[cv,←hlen,b2,World.size_drew]
  ·intro i hi;cases hi;simp[AS.push,hlen]
 split at hk
 ·rename_i hx
  obtain⟨hroom,hk⟩:=hk
  refine hgrown none 0 0 [] S (g.ev_v hx) (by omega) (by omega) (by simp) (fun w' _=>by simp[Builtin.firstCells]) (g.below (gt w)) rfl (fun cap' junk c1 c2=>?_)
  rw[Nat.zero_add] at c1 c2 ⊢
  exact hk cap' junk c1 c2
 ·rename_i i' off' len cap hx
  obtain⟨rfl,hlc,hc1,hcap,hroom,hk⟩:=hk
  have hcls:cls o.op=2:=by
   rw[ho]
   cases x with
   |const c=>cases hx
   |_=>rfl
  have hi':i' < S.bx.length:=g.wf_ev (by rw[hx];rfl)
  have hget:S.bx[i']?=some (S.box i'):=by simp[AS.box,hi']
  have hlm:len*sz≤cap*sz:=ψ _ hlc
  by_cases hle:len+m≤cap
  ·have hne:S.box i'≠[]:=fun e0=>by
    rw[e0] at hcap
    have:=ψ sz hc1
    simp at hcap;omega
   have hlm2:=ψ sz hle
   rw[Nat.add_mul] at hlm2
   obtain⟨T',hw⟩:=(g.boxes i' _ hget hne).row
   obtain⟨w',h1',h2,h3⟩:=jd (P:=M.P) news (S.box i') (len*sz) 0 w hw (by omega) hall
   have hspl:(S.box i').take (len*sz) ++news ++(S.box i').drop (len*sz+m*sz)=spl (S.box i') (len*sz) news:=by
    rw[spl_eq _ _ _ (by omega),hl]
   have hkj:=hk cap ((S.box i').drop (len*sz+m*sz)) hle (by simp[Nat.add_mul];omega)
   rw[hspl] at hkj
   have g1:=g.setBox hget hne (cs':=spl (S.box i') (len*sz) news) (by rw[sm]) (by simpa using h2) h3
   obtain⟨β',b1,g'⟩:=g1.move (i:=i') (cs:=spl (S.box i') (len*sz) news) (by simp[AS.setBox,hi'])
   have hset:(S.setBox i' (spl (S.box i') (len*sz) news)).setBox i' []=S.setBox i' []:=by simp[AS.setBox]
   have hlen:(S.setBox i' (spl (S.box i') (len*sz) news)).bx.length=S.bx.length:=by simp[AS.setBox]
   rw[hset] at g'
   rw[hlen] at b1
   refine .mk hd (v:=.slice (some ⟨β i',0,none⟩) (len+m) cap) (x:=.s S.bx.length 0 (len+m) cap) (w':=w') ?_ (.inl hcls) g' (.inr (by simp[cv,b1])) (fun q hq=>by cases hq;simp[AS.push,AS.setBox]) hkj
   rw[hexec _ (g.ev_s hx)]
   have hst:(storeCells ((⟨β i',0,none⟩:Addr).add (len*sz)) news).run M.P w=.ok () w':=by simpa[gF] using h1'
   simp only[Builtin.append_,Sem.run_bind,run_underlying hE,run_underlying hE',Result.andThen_ok,Sem.run_pure,sizeOf,typeInfo,run_program,hi,hs,Builtin.lenOf,
    List.getElem?_toArray,List.getElem?_cons_zero,List.getElem?_cons_succ,qAw,if_false,Bool.not_false,if_true,hle,hsrc _ g,hst]
  ·refine hgrown (some ⟨β i',0,none⟩) len cap ((S.box i').take (len*sz)) (S.setBox i' []) (g.ev_s hx) (by omega) hroom (by simp;omega) (fun w' g'=>?_) ((g.below (gt w)).kill i') (by simp[AS.setBox]) hk
   simp only[Builtin.firstCells]
   have hl2:((S.box i').take (len*sz)).length=len*sz:=by simp;omega
   have:=run_loadCells_list (P:=M.P) (w:=w') ⟨β i',0,none⟩ ((S.box i').take (len*sz)) (fun j v hj=>by
    rw[gF]
    refine g'.box_get hi' ?_
    rw[List.getElem?_take] at hj
    split at hj
    ·simpa using hj
    ·cases hj)
   rw[hl2] at this
   exact this
 ·exact hk.elim
theorem RWc_tail {ops:Array Oper} {Q Q':Exit→Act→World→Prop} {r:List Nat} (hp:∀e a w,e≠.normal→Q' e a w→Q e a w) (hl:LetsOut Q'→LetsOut Q) (hn:∀a w,Q' .normal a w→RWc M.P ops Q r a w):∀(l:List Nat) (a:Act) (w:World),RWc M.P ops Q' l a w→RWc M.P ops Q (l ++r) a w:=by
 intro l
 induction l with
 |nil=>intro a w hq;exact hn a w hq
 | cons i l ih=>
  intro a w hq
  show RWc M.P ops Q (i :: (l ++r)) a w
  simp only[RWc] at hq ⊢
  split at hq
  ·exact hq
  ·rename_i o ho
   by_cases hw:Region.wanted o (yielded ops a.tmps)=true
   ·rw[if_pos hw] at hq ⊢
    by_cases hc:cls o.op=0
    ·rw[if_pos hc] at hq ⊢
     obtain⟨v,h1,h2⟩:=hq
     exact⟨v,h1,ih _ _ h2⟩
    ·rw[if_neg hc] at hq ⊢
     have hq:=nf (K':=fun a' w'=>(cls o.op=2∨Below w.heap.size w w')∧RWc M.P ops Q (l ++r) a' w') (fun a' w' h=>⟨h.1,ih _ _ h.2⟩) hq
     unfold Oper.wp at hq ⊢
     generalize(execOp a.eval o).run M.P w=r at hq
     cases r with
     | ok n w'=>
      cases n<;>simp only[Oper.upon] at hq ⊢<;>first
       |exact hq
       |exact Calls.mono hq (fun e w'' he=>by cases e<;>first |exact he |exact hp _ _ _ (by simp) he |exact hl he)
     |halt x w'=>cases x<;>simp only[Oper.upon] at hq ⊢<;>first |exact hq |exact hp _ _ _ (by simp) hq
   ·rw[if_neg hw] at hq ⊢
    exact ih _ _ hq
theorem RWc_app {ops:Array Oper} {l1 l2:List GX} {d:Nat} {x y:Operand} {T U V:TypeId} {ps:String} {ar:Array Edge} {sz:Nat} (pl1:List PL) (i:Nat) (pl2:List PL) (hi:nth ops.toList i=some ⟨some d,.call {callee:=.builtin .append,args:=#[x,y],argTypes:=#[T,U]},V,ps,ar,none⟩)
  (hU:uk M.P U=.slice) (hz:mkN M.P T sz=true) (hd:d < n) (h1:prep n ops pl1=some l1) (h2:prep n ops pl2=some l2)
  (hw:walk M E l1 (fun S h=>appN sz S h (S.ev x) (S.ev y) fun S h v=>walk M E l2 (fun S h=>Q .normal S h) (S.put (some d) v) h) S h) (g:G M C n S h β a w):RWc M.P ops (LQ M n C Q E) (order pl1 ++i :: order pl2) a w:=by
 refine RWc_tail (Q':=LQ M n C (qs (fun S h=>appN sz S h (S.ev x) (S.ev y) fun S h v=>walk M E l2 (fun S h=>Q .normal S h) (S.put (some d) v) h) Q) E) (fun e a w he hq=>?_) ?_ (fun a w hq=>?_) _ _ _ (fx pl1 l1 S h β a w h1 hw g)
 ·cases e with
  |normal=>exact(he rfl).elim
  |panic ch=>exact hq
  |outgrown=>exact hq
  |_=>exact hq
 ·unfold LetsOut
  exact fun h=>h
 ·obtain⟨S1,h1',β1,g1,hk⟩:=hq
  rw[Bp] at hi
  dsimp only[qs] at hk
  rw[jP hi (by simp only[cls];cases nilB _<;>decide),if_pos (nI rfl _)]
  have:=im_appN (E:=E) g1 (o:=⟨some d,.call {callee:=.builtin .append,args:=#[x,y],argTypes:=#[T,U]},V,ps,ar,none⟩) (fun k hk=>by cases hk;exact hd) rfl hU hz hk (LQ M n C Q E) (fun ch h' w' hf he=>⟨g1.defers,h',hf,he⟩)
  exact nf (fun a' w' ⟨h1,S',h',x,β',g',hk⟩=>⟨h1,fx pl2 l2 _ h' β' a' w' h2 hk g'⟩) this
theorem AWP_app {id:Nat} {ops:Array Oper} {l1 l2:List GX} {d:Nat} {x y:Operand} {T U V:TypeId} {ps:String} {ar:Array Edge} {sz:Nat} (pl1:List PL) (i:Nat) (pl2:List PL) (hi:nth ops.toList i=some ⟨some d,.call {callee:=.builtin .append,args:=#[x,y],argTypes:=#[T,U]},V,ps,ar,none⟩)
  (hU:uk M.P U=.slice) (hz:mkN M.P T sz=true) (hord:order pl1 ++i :: order pl2=List.range ops.size) (hd:d < n) (h1:prep n ops pl1=some l1) (h2:prep n ops pl2=some l2)
  (hw:walk M E l1 (fun S h=>appN sz S h (S.ev x) (S.ev y) fun S h v=>walk M E l2 (fun S h=>Q .normal S h) (S.put (some d) v) h) S h):AWP M n C (.region id ops false) Q E S h:=
 fun β a w g=>eK (by rw[←hord];exact RWc_app pl1 i pl2 hi hU hz hd h1 h2 hw g)
theorem AWP_apD {id:Nat} {ops:Array Oper} {l1 l2:List GX} {d:Nat} {x y:Operand} {T U V:TypeId} {ps:String} {ar:Array Edge} {sz:Nat} (pl1:List PL) (i:Nat) (pl2:List PL) (hi:nth ops.toList i=some ⟨some d,.call {callee:=.builtin .append,args:=#[x,y],argTypes:=#[T,U]},V,ps,ar,none⟩)
  (hU:uk M.P U=.slice) (hz:mkN M.P T sz=true) (hc:fi ops (order pl1 ++i :: order pl2)=true) (hd:d < n) (h1:prep n ops pl1=some l1) (h2:prep n ops pl2=some l2)
  (hw:walk M E l1 (fun S h=>appN sz S h (S.ev x) (S.ev y) fun S h v=>walk M E l2 (fun S h=>Q .normal S h) (S.put (some d) v) h) S h):AWP M n C (.region id ops true) Q E S h:=
 fun β a w g=>Eh M.mixed _ hc (fun c a d v w=>sJ c a d v w) (RWc_app pl1 i pl2 hi hU hz hd h1 h2 hw (g.below (gt w)))
end
def RowOf {α:Type} (sz:Nat) (Q:List Value→α→Prop) (row:List Value) (l:List α):Prop:=l.length*sz≤row.length∧∀(i:Nat) (s:α),l[i]?=some s→Q ((row.drop (i*sz)).take sz) s
theorem RowOf.nil {α:Type} {sz:Nat} {Q:List Value→α→Prop} {row:List Value}:RowOf sz Q row []:=⟨by simp,fun i s h=>by simp at h⟩
theorem RowOf.mono {α:Type} {sz:Nat} {Q Q':List Value→α→Prop} {row:List Value} {l:List α} (h:RowOf sz Q row l) (k:∀cs s,Q cs s→Q' cs s):RowOf sz Q' row l:=⟨h.1,fun i s e=>k _ _ (h.2 i s e)⟩
theorem RowOf.app {α:Type} {sz:Nat} {Q:List Value→α→Prop} {row:List Value} {l:List α} (h:RowOf sz Q row l) {cs:List Value} {s:α} (hl:cs.length=sz) (q:Q cs s) (junk:List Value):RowOf sz Q (row.take (l.length*sz) ++cs ++junk) (l ++[s]):=by
 have h1:=h.1
 have e1:(row.take (l.length*sz)).length=l.length*sz:=by simp;omega
 refine⟨by simp[Nat.add_mul];omega,fun i t hi=>?_⟩
 rcases qBj i l.length with g |g
 ·rw[List.getElem?_append_left g] at hi
  have hm:(i+1)*sz≤l.length*sz:=ψ _ g
  rw[Nat.add_mul,qBm] at hm
  have:=h.2 i t hi
  rw[List.append_assoc,List.drop_append_of_le_length (by omega),List.take_append_of_le_length (by simp;omega),List.drop_take,List.take_take,Nat.min_eq_left (by omega)]
  exact this
 ·have:i < (l ++[s]).length:=(List.getElem?_eq_some_iff.1 hi).1
  simp only[qAp,List.length_singleton] at this
  obtain rfl:i=l.length:=by omega
  rw[List.getElem?_append_right (η _),Nat.sub_self] at hi
  cases hi
  rw[List.append_assoc,List.drop_append_of_le_length (by omega),List.drop_take,Nat.sub_self,List.take_zero,List.nil_append,←hl,List.take_append_of_le_length (η _),List.take_length]
  exact q
theorem RowOf.ld {α:Type} {sz:Nat} {Q:List Value→α→Prop} {row:List Value} {l:List α} (h:RowOf sz Q row l) {i:Nat} {s:α} (hi:l[i]?=some s):ldb (some sz) row (i*sz)=some (.agg ((row.drop (i*sz)).take sz).toArray):=by
 have h1:=h.1
 have g:i < l.length:=(List.getElem?_eq_some_iff.1 hi).1
 have hm:(i+1)*sz≤l.length*sz:=ψ _ g
 rw[Nat.add_mul,qBm] at hm
 show(bif Nat.ble (i*sz+sz) row.length then _ else _)=_
 rw[Nat.ble_eq_true_of_le (by omega)]
 rfl
theorem at_off {h:PH} {b:Nat} {cs:Array Value} (hb:h b=some cs) (n j:Nat):h.at (((⟨b,0,none⟩:Addr).add n).add j)=cs[n+j]?:=by
 have e:((⟨b,0,none⟩:Addr).add n).add j=⟨b,n+j,none⟩:=by
  unfold Addr.add
  split<;>split<;>simp_all
 rw[e]
 simp[PH.at,hb]
open Go.RowKit
theorem Has.join {w:World} {a b:PH} (ha:Has w a) (hb:Has w b):∃c,Has w c∧Sub a c∧Sub b c∧∀k,c k≠none→a k≠none∨b k≠none:=by
 refine⟨fun k=>match a k with |some x=>some x |none=>b k,fun k cs h=>?_,fun k cs h=>?_,fun k cs h=>?_,fun k h=>?_⟩
 ·dsimp only at h
  cases e:a k with
  |some x=>rw[e] at h;cases h;exact ha _ _ e
  |none=>rw[e] at h;exact hb _ _ h
 ·show(match a k with |some x=>some x |none=>b k)=_;rw[h]
 ·show(match a k with |some x=>some x |none=>b k)=_
  cases e:a k with
  |none=>exact h
  | some x=>
   obtain⟨_,_,h1⟩:=ha _ _ e
   obtain⟨_,_,h2⟩:=hb _ _ h
   rw[h1] at h2
   cases h2;rfl
 ·cases e:a k with
  |some x=>exact .inl (by simp)
  |none=>exact .inr (fun e2=>h (by show(match a k with |some x=>some x |none=>b k)=_;rw[e];exact e2))
theorem Has.kept {A B:World} {h:PH} (hh:Has A h) {row:Option Nat} (hg:A.grownBy B row) (hr:∀r,row=some r→h r=none):Has B h:=fun b cs hx=>by
 obtain⟨T,f,hw⟩:=hh b cs hx
 exact⟨T,f,(hg.block b (Array.getElem?_eq_some_iff.1 hw).1 (fun e=>by rw[hr b e.symm] at hx;cases hx)).trans hw⟩
theorem priv_of_new {w:World} {n:Nat} {h hm:PH} (hw:Has w h) (hn:New n h hm):∀k,w.heap.size≤k→k < n→hm k=none:=fun k k1 k2=>by
 cases ex:hm k with
 |none=>rfl
 | some cs=>
  rcases hn k (by rw[ex];simp) with g |g
  ·cases e9:h k with
   |none=>exact absurd e9 g
   |some cs'=>have:=hw.lt e9;omega
  ·omega
structure Col {α:Type} (w:World) (h0:PH) (B:Nat) (T E:TypeId) (sz:Nat) (Q:PH→List Value→α→Prop) (R:List (Nat×Array Value×TypeId)) (l:List α) (hp:PH) (v:Value) (W:World):Prop where
 sub:Sub h0 hp
 has:Has W hp
 new:New w.heap.size h0 hp
 box:Boxed W B T v
 row:∃xs,W.ownsRow w.heap.size E sz v l.length xs∧RowOf sz (Q hp) xs l
 off:∀g,v.ownBlock=some g→hp g=none
 boff:hp B=none
 below:Below w.heap.size w W
 rest:∀x∈R,W.heap[x.1]?=some (.cells x.2.1 x.2.2 (0,0))∧hp x.1=none∧x.1≠B∧v.ownBlock≠some x.1∧w.heap.size≤x.1
section
variable {α:Type} {w:World} {h0:PH} {B:Nat} {T E:TypeId} {sz:Nat} {Q:PH→List Value→α→Prop} {R:List (Nat×Array Value×TypeId)} {l:List α} {hp:PH} {v:Value} {W:World}
theorem Col.kept (c:Col w h0 B T E sz Q R l hp v W) {W':World} {row:Option Nat} (hg:W.grownBy W' row) (hr:∀r,row=some r→w.heap.size≤r∧∃o:Obj,W.heap[r]?=some o∧o.isCells=false):Col w h0 B T E sz Q R l hp v W':=by
 obtain⟨xs,h1,h2⟩:=c.row
 refine⟨c.sub,c.has.kept hg fun r e=>?_,c.new,c.box.kept hg fun e=>?_,⟨xs,h1.kept hg ?_,h2⟩,c.off,c.boff,c.below.grown hg c.below.size fun k e=>(hr k e).1,fun x hx=>?_⟩
 ·obtain⟨_,o,ho,hc⟩:=hr r e
  cases hx:hp r with
  |none=>rfl
  | some cs=>
   obtain⟨_,_,hw⟩:=c.has _ _ hx
   rw[hw] at ho;cases ho;cases hc
 ·obtain⟨_,o,ho,hc⟩:=hr B e.symm
  rw[show W.heap[B]?=_ from c.box] at ho;cases ho;cases hc
 ·rcases h1.2 with⟨rfl,_⟩ |⟨g,cap,cur,rfl,_,hgb,_⟩
  ·exact .inl rfl
  ·refine .inr fun e'=>?_
   obtain⟨_,o,ho,hc⟩:=hr g (by simpa[Value.ownBlock] using e'.symm)
   rw[hgb] at ho;cases ho;cases hc
 ·obtain⟨k1,k2⟩:=c.rest x hx
  refine⟨(hg.block x.1 (Array.getElem?_eq_some_iff.1 k1).1 fun e=>?_).trans k1,k2⟩
  obtain⟨_,o,ho,hc⟩:=hr x.1 e.symm
  rw[k1] at ho;cases ho;cases hc
theorem col_own {β:Type} {D:Nat} (hD:w.heap.size≤D) (f:β→List α) (G:β→Prop):OwnFrom D (fun(s:β) W=>(∃hp v,Col w h0 B T E sz Q R (f s) hp v W)∧G s):=
 fun _ _ _ _ ⟨⟨hp,v,c⟩,g⟩ hg hr=>⟨⟨hp,v,c.kept hg fun r e=>⟨χ hD (hr r e).1,(hr r e).2⟩⟩,g⟩
theorem Col.alloc (c:Col w h0 B T E sz Q R l hp v W) (o:Obj):Col w h0 B T E sz Q R l hp v (W.alloc o):=c.kept (World.grownBy_alloc W o none) (fun r e=>by cases e)
theorem Col.up (c:Col w h0 B T E sz Q R l hp v W) {h':PH} {W':World} (hs:Sub hp h') (hh:Has W' h') (hb:Below W.heap.size W W') (hn:New W.heap.size hp h') (hQ:∀cs s,Q hp cs s→Q h' cs s):Col w h0 B T E sz Q R l h' v W':=by
 obtain⟨xs,h1,h2⟩:=c.row
 have off:∀k,k < W.heap.size→hp k=none→h' k=none:=fun k hk e=>by
  cases e2:h' k with
  |none=>rfl
  | some cs=>
   rcases hn k (by rw[e2];simp) with g |g
   ·exact absurd e g
   ·omega
 refine⟨c.sub.trans hs,hh,fun k hk=>?_,?_,⟨xs,?_,h2.mono hQ⟩,fun g e=>off g ?_ (c.off g e),off B c.box.lt c.boff,c.below.trans (hb.mono c.below.size),fun x hx=>?_⟩
 ·rcases hn k hk with g |g
  ·exact c.new k g
  ·exact .inr (χ c.below.size g)
 ·exact(hb.block B c.box.lt).trans c.box
 ·refine⟨h1.1,?_⟩
  rcases h1.2 with hn |⟨g,cap,cur,rfl,hb0,hgg,rest⟩
  ·exact .inl hn
  ·exact .inr ⟨g,cap,cur,rfl,hb0,(hb.block g (Array.getElem?_eq_some_iff.1 hgg).1).trans hgg,rest⟩
 ·rcases h1.2 with⟨rfl,_⟩ |⟨g',cap,cur,rfl,_,hgb,_⟩
  ·simp[Value.ownBlock] at e
  ·obtain rfl:g'=g:=by simpa[Value.ownBlock] using e
   exact(Array.getElem?_eq_some_iff.1 hgb).1
 ·obtain⟨k1,k2,k3⟩:=c.rest x hx
  have hlt:=(Array.getElem?_eq_some_iff.1 k1).1
  exact⟨(hb.block x.1 hlt).trans k1,off x.1 hlt k2,k3⟩
theorem Col.start2 {hp:PH} (hs:Sub h0 hp) {W:World} (hh:Has W hp) (hn:New w.heap.size h0 hp) (hb:Below w.heap.size w W) (hx:Boxed W B T (.slice none 0 0)) (hB:hp B=none)
  (hR:∀x∈R,W.heap[x.1]?=some (.cells x.2.1 x.2.2 (0,0))∧w.heap.size≤x.1∧x.1≠B∧hp x.1=none):Col w h0 B T E sz Q R ([]:List α) hp (.slice none 0 0) W:=
 ⟨hs,hh,hn,hx,⟨[],World.ownsRow_nil _ _ _ _,RowOf.nil⟩,fun g e=>by simp[Value.ownBlock] at e,hB,hb,fun x hx=>by
  obtain⟨k1,k2,k3,k4⟩:=hR x hx
  exact⟨k1,k4,k3,by simp[Value.ownBlock],k2⟩⟩
theorem Col.start {T:TypeId} (hw:Has w h0) {W:World} (hb:Below w.heap.size w W) (hB:w.heap.size≤B) (hx:Boxed W B T (.slice none 0 0)) (hR:∀x∈R,W.heap[x.1]?=some (.cells x.2.1 x.2.2 (0,0))∧w.heap.size≤x.1∧x.1≠B):Col w h0 B T E sz Q R ([]:List α) h0 (.slice none 0 0) W:=
 ⟨Sub.refl _,hw.below hb,fun _ h=>.inl h,hx,⟨[],World.ownsRow_nil _ _ _ _,RowOf.nil⟩,fun g e=>by simp[Value.ownBlock] at e,by
  cases e:h0 B with
  |none=>rfl
  |some cs=>have:=hw.lt e;omega,hb,fun x hx=>by
  obtain⟨k1,k2,k3⟩:=hR x hx
  refine⟨k1,?_,k3,by simp[Value.ownBlock],k2⟩
  cases e:h0 x.1 with
  |none=>rfl
  |some cs=>have:=hw.lt e;omega⟩
theorem Col.app (c:Col w h0 B T E sz Q R l hp v W) (hTE:T≠E) (hB:w.heap.size≤B) {tmp:Obj} {w1:World} {v':Value} {xs cs:List Value} {s:α} (hx:W.ownsRow w.heap.size E sz v l.length xs) (hR:RowOf sz (Q hp) xs l)
  (hcs:cs.length=sz) (q:Q hp cs s) (hown:w1.ownsRow w.heap.size E sz v' (l.length+1) (xs ++cs)) (hg:(W.alloc tmp).grownBy w1 v.ownBlock) (hat:v'.ownBlock=v.ownBlock∨v'.ownBlock=some (W.alloc tmp).heap.size):
  Boxed w1 B T v∧Col w h0 B T E sz Q R (l ++[s]) hp v' (w1.setCell ⟨B,0,none⟩ v')∧KeepsOthers W (w1.setCell ⟨B,0,none⟩ v'):=by
 obtain⟨k1,k2,k3,k4,k5⟩:=c.box.appended (tmp:=tmp) hTE hx c.below.size hB hown hg
 have hh1:Has w1 hp:=(c.has.kept (World.grownBy_alloc W tmp none) (fun r e=>by cases e)).kept hg fun r e=>c.off r e
 have hlt:∀g,v'.ownBlock=some g→hp g=none:=fun g e=>by
  rcases hat with ha |ha
  ·exact c.off g (by rw[←ha];exact e)
  ·cases ex:hp g with
   |none=>rfl
   | some cs'=>
    have h1:=c.has.lt ex
    rw[ha] at e
    have e:=Option.some.inj e
    simp at e
    omega
 refine⟨k1,⟨c.sub,hh1.kept (grownBy_setCell' w1 B v') (fun r e=>by cases e;exact c.boff),c.new,k2,⟨xs ++cs,by simpa using k3,?_⟩,hlt,c.boff,c.below.trans k5,fun x hx=>?_⟩,k4⟩
 ·have:=hR.app hcs q []
  rwa[List.append_nil,qAr (by rw[hx.1];exact η _)] at this
 ·obtain⟨r1,r2,r3,r4,r5⟩:=c.rest x hx
  have hl1:=(Array.getElem?_eq_some_iff.1 r1).1
  refine⟨?_,r2,r3,fun e=>?_,r5⟩
  ·rw[Below.heap_setCell _ _ _ _ r3,hg.block x.1 (by simp;omega) (fun e=>r4 e.symm),Below.heap_alloc _ _ _ hl1];exact r1
  ·rcases hat with ha |ha
   ·exact r4 (by rw[←ha];exact e)
   ·rw[ha] at e
    have e:=Option.some.inj e
    simp at e
    omega
theorem bx_cell {W:World} {b:Nat} {cs:Array Value} {t:TypeId} {f:Nat×Nat} (h:W.heap[b]?=some (.cells cs t f)) (i:Nat):W.cell? ⟨b,i,none⟩=cs[i]?:=by
 simp[World.cell?,h]
theorem bx8 {W:World} {b:Nat} {x1 x2 x3 x4 x5 x6 x7 x8:Value} {t:TypeId} {f:Nat×Nat} (k:W.heap[b]?=some (.cells #[x1,x2,x3,x4,x5,x6,x7,x8] t f)):W.cell? ⟨b,0,none⟩=some x1∧W.cell? ⟨b,1,none⟩=some x2∧W.cell? ⟨b,2,none⟩=some x3∧W.cell? ⟨b,3,none⟩=some x4∧W.cell? ⟨b,4,none⟩=some x5∧W.cell? ⟨b,5,none⟩=some x6∧W.cell? ⟨b,6,none⟩=some x7∧W.cell? ⟨b,7,none⟩=some x8:=
 ⟨bx_cell k 0,bx_cell k 1,bx_cell k 2,bx_cell k 3,bx_cell k 4,bx_cell k 5,bx_cell k 6,bx_cell k 7⟩
theorem Col.push (c:Col w h0 B T E sz Q R l hp v W) (cs:Array Value) (T':TypeId):Col w h0 B T E sz Q ((W.heap.size,cs,T') :: R) l hp v (W.alloc (.cells cs T')):=by
 have d:=c.alloc (.cells cs T')
 refine⟨d.sub,d.has,d.new,d.box,d.row,d.off,d.boff,d.below,fun x hx=>?_⟩
 rcases List.mem_cons.1 hx with rfl |hx
 ·refine⟨World.alloc_heap_new W _,?_,fun e=>?_,fun e=>?_,c.below.size⟩
  ·cases e:hp W.heap.size with
   |none=>rfl
   |some cs'=>have:=c.has.lt e;omega
  ·have:=c.box.lt
   have e:W.heap.size=B:=e
   omega
  ·obtain⟨xs,h1,_⟩:=c.row
   have:=(h1.lt _ e).2
   have:W.heap.size < W.heap.size:=this
   omega
 ·exact d.rest x hx
theorem Col.less (c:Col w h0 B T E sz Q R l hp v W) {R':List (Nat×Array Value×TypeId)} (h:∀x∈R',x∈R):Col w h0 B T E sz Q R' l hp v W:=
 ⟨c.sub,c.has,c.new,c.box,c.row,c.off,c.boff,c.below,fun x hx=>c.rest x (h x hx)⟩
theorem Col.meet (c:Col w h0 B T E sz Q R l hp v W) {W1:World} (hg:W.grownBy W1 none) {hn:PH} (h2:Sub h0 hn) (h3:Has W1 hn) (h4:New W.heap.size h0 hn) (hQ:∀a b,Sub a b→∀cs s,Q a cs s→Q b cs s):
  ∃hj,Col w h0 B T E sz Q R l hj v W1∧Sub hn hj∧Sub hp hj:=by
 obtain⟨hj,j1,j2,j3,j4⟩:=Has.join (c.has.kept hg (fun r e=>by cases e)) h3
 refine⟨hj,c.up j2 j1 ⟨hg.os,hg.tape,hg.output,hg.size,fun k hk=>hg.block k hk (by simp)⟩ (fun k hk=>?_) (hQ _ _ j2),j3,j2⟩
 rcases j4 k hk with g |g
 ·exact .inl g
 ·rcases h4 k g with g |g
  ·refine .inl fun e=>?_
   cases e2:h0 k with
   |none=>exact g e2
   |some cs=>rw[c.sub _ _ e2] at e;cases e
  ·exact .inr g
theorem post_ret {w':World} {h:PH} {R':Value→PH→Prop} {e:Ending} (p:Post w h R' NP e w'):∃u h',e=.returned u∧Below w.heap.size w w'∧Has w' h'∧Sub h h'∧New w.heap.size h h'∧R' u h':=by
 cases e with
 |returned u=>obtain⟨h',q⟩:=p;exact⟨u,h',rfl,q⟩
 |panicked ch=>obtain⟨_,_,_,_,_,p⟩:=p;exact(p:False).elim
 |outgrown=>exact(p:False).elim
theorem Col.set (c:Col w h0 B T E sz Q R l hp v W) {r:Nat} {cs:Array Value} {T':TypeId} (hr:(r,cs,T')∈R) (v':Value) {R':List (Nat×Array Value×TypeId)} (hR:∀x∈R',x∈R∧x.1≠r):Col w h0 B T E sz Q R' l hp v (W.setCell ⟨r,0,none⟩ v'):=by
 obtain⟨r1,r2,r3,r4,hlo⟩:=c.rest _ hr
 obtain⟨xs,h1,h2⟩:=c.row
 refine⟨c.sub,c.has.kept (grownBy_setCell' W r v') (fun r e=>by cases e;exact r2),c.new,c.box.kept (grownBy_setCell' W r v') (fun e=>r3 (Option.some.inj e).symm),⟨xs,h1.kept (grownBy_setCell' W r v') (.inr r4),h2⟩,c.off,c.boff,c.below.setCell (p:=⟨r,0,none⟩) hlo v',fun x hx=>?_⟩
 obtain⟨k1,k2⟩:=hR x hx
 obtain⟨q1,q2⟩:=c.rest x k1
 exact⟨by rw[Below.heap_setCell _ _ _ _ k2];exact q1,q2⟩
theorem Col.touch (c:Col w h0 B T E sz Q R l hp v W) {r:Nat} {cs:Array Value} {T':TypeId} (hr:(r,cs,T')∈R) {W':World} (hg:W.grownBy W' (some r)) {R':List (Nat×Array Value×TypeId)} (hR:∀x∈R',x∈R∧x.1≠r):Col w h0 B T E sz Q R' l hp v W':=by
 obtain⟨r1,r2,r3,r4,hlo⟩:=c.rest _ hr
 obtain⟨xs,h1,h2⟩:=c.row
 refine⟨c.sub,c.has.kept hg (fun r e=>by cases e;exact r2),c.new,c.box.kept hg (fun e=>r3 (Option.some.inj e).symm),⟨xs,h1.kept hg (.inr r4),h2⟩,c.off,c.boff,c.below.grown hg c.below.size (fun k e=>by cases e;exact hlo),fun x hx=>?_⟩
 obtain⟨k1,k2⟩:=hR x hx
 obtain⟨q1,q2⟩:=c.rest x k1
 exact⟨(hg.block x.1 (Array.getElem?_eq_some_iff.1 q1).1 (fun e=>k2 (Option.some.inj e))).trans q1,q2⟩
theorem Col.fin (c:Col w h0 B T E sz Q R l hp v W) (hQ:∀h',Sub hp h'→∀cs s,Q hp cs s→Q h' cs s):∃hf,Has W hf∧Sub h0 hf∧New w.heap.size h0 hf∧
  ∃a cap,v=.slice a l.length cap∧∀i s,l[i]?=some s→∃ad cs,a=some ad∧Q hf cs s∧∀j u,cs[j]?=some u→hf.at ((ad.add (i*sz)).add j)=some u:=by
 obtain⟨xs,h1,h2⟩:=c.row
 rcases h1.2 with⟨rfl,e0⟩ |⟨g,cap,cur,rfl,hb,hgb,_,_,hs,ht⟩
 ·exact⟨hp,c.has,c.sub,c.new,none,0,by rw[e0],fun i s hi=>by
   have:=(List.getElem?_eq_some_iff.1 hi).1
   omega⟩
 ·have hgn:=c.off g rfl
  have hsub:Sub hp (fun k=>if k=g then some cur else hp k):=fun k cs hx=>by
   show(if k=g then some cur else hp k)=some cs
   rw[if_neg (fun e=>by rw[e,hgn] at hx;cases hx)];exact hx
  refine⟨fun k=>if k=g then some cur else hp k,fun k cs hx=>?_,c.sub.trans hsub,fun k hx=>?_,some ⟨g,0,none⟩,cap,rfl,fun i s hi=>⟨_,_,rfl,hQ _ hsub _ _ (h2.2 i s hi),fun j u hj=>?_⟩⟩
  ·have hx:(if k=g then some cur else hp k)=some cs:=hx
   by_cases e:k=g
   ·rw[if_pos e] at hx;cases hx;exact⟨_,_,e▸hgb⟩
   ·rw[if_neg e] at hx;exact c.has _ _ hx
  ·have hx:(if k=g then some cur else hp k)≠none:=hx
   by_cases e:k=g
   ·exact .inr (e▸hb)
   ·rw[if_neg e] at hx;exact c.new k hx
  ·rw[at_off (cs:=cur) (by show(if g=g then some cur else hp g)=_;rw[if_pos rfl])]
   rw[←ht] at hj
   rw[List.getElem?_take] at hj
   split at hj
   ·rw[List.getElem?_drop,List.getElem?_take] at hj
    split at hj
    ·simpa using hj
    ·cases hj
   ·cases hj
end
theorem at_store {F:Fence} {n:Nat} {P:Program} {w:World} {ops:Array Oper} {rest:List Oper} {d:Option Tmp} {T:TypeId} {x y:Operand} {ty:TypeId} {ps:String} {af:Array Edge} {a:Act} {Q:Exit→Act→World→Prop}
  (h:wpListIn F n P ops Q (⟨d,.store T x y,ty,ps,af,none⟩ :: rest) a w):wpListIn F n P ops Q (⟨d,.store T x y,ty,ps,af,none⟩ :: rest) a w:=h
theorem wpListIn_store_box {F:Fence} {n:Nat} {M:Mach} {P:Program} (hP:M.P=P) {w:World} {ops:Array Oper} {rest:List Oper} {o:Oper} {a:Act} {Q:Exit→Act→World→Prop} (b off:Nat) (vs:List Value) (cs:Array Value) {T Tb:TypeId} {x y:Operand} {t:Option Nat} (hgd:o.guard=none)
  (ho:o.op=.store T x y) (hx:a.eval x=.pointer (some ⟨b,off,none⟩)) (hy:(a.eval y).cells=vs.toArray) (ht:tk M.P T=some t) (hsz:bT t=vs.length) (hall:vs.all Value.oneCell'=true) (hb:w.heap[b]?=some (.cells cs Tb (0,0))) (hle:off+vs.length≤cs.size)
  (h:∀w',w'.heap[b]?=some (.cells (spl cs.toList off vs).toArray Tb (0,0))→w.grownBy w' (some b)→wpListIn F n P ops Q rest (a.put o.dst undef) w'):wpListIn F n P ops Q (o :: rest) a w:=by
 subst hP
 refine wpListIn_plain hgd fun K hK=>?_
 have hs:(sizeOf T).run M.P w=.ok (bT t) w:=by
  cases t with
  |none=>exact(wH ht w).2
  |some m=>exact(tT ht w).2
 obtain⟨w',h1,h2,h3⟩:=jd (P:=M.P) vs cs.toList off 0 w (by simpa using hb) (by simpa using hle) hall
 unfold Oper.wpIn
 refine⟨by simp[Oper.about,ho],?_⟩
 rw[Oper.semAt_plain F _ _ (by rw[ho];intro c hc';cases hc')]
 have hrun:(execOp a.eval o).run M.P w=.ok .skip w':=by
  simp only[execOp,ho,Instr.storeAt,Instr.sureAddr,hx,Sem.run_bind,Sem.run_pure,Result.andThen_ok,storeVar,hs,hsz,hy]
  simp[h1]
 rw[hrun]
 exact hK _ _ (h w' (by simpa using h2) ⟨h3.os,h3.tape,h3.output,Nat.le_of_eq h3.size.symm,fun k _ hk=>h3.other k (fun e=>hk (by rw[e]))⟩)
namespace NS
def lo0:NS→Rat
 |.e=>0
 |.i a _=>a.getD 0
def hi0:NS→Rat
 |.e=>0
 |.i _ b=>b.getD 0
def loN:NS→Bool
 |.e=>false
 |.i a _=>a.isNone
def hiN:NS→Bool
 |.e=>false
 |.i _ b=>b.isNone
end NS
def Rr (h:PH) (v:Value) (x:NS):Prop:=∃b1 x1 y1 b2 x2 y2,v=.agg #[.bool b1,x1,y1,.bool b2,x2,y2,.bool x.loN,.bool x.hiN,.bool x.void]∧Qr h (.agg #[.bool b1,x1,y1]) x.lo0∧Qr h (.agg #[.bool b2,x2,y2]) x.hi0
theorem Rr.to {h h':PH} {v:Value} {x:NS} (r:Rr h v x) [Le h h']:Rr h' v x:=let ⟨a,b,c,d,e,f,h1,h2,h3⟩:=r;⟨a,b,c,d,e,f,h1,h2.to,h3.to⟩
theorem Rr.sa {h:PH} {v:Value} {x:NS} (r:Rr h v x):∃b1 a1 m1 c1 a2 m2 c2 b2 a3 m3 c3 a4 m4 c4,v=.agg #[.bool b1,.slice a1 m1 c1,.slice a2 m2 c2,.bool b2,.slice a3 m3 c3,.slice a4 m4 c4,.bool x.loN,.bool x.hiN,.bool x.void]∧
  Qr h (.agg #[.bool b1,.slice a1 m1 c1,.slice a2 m2 c2]) x.lo0∧Qr h (.agg #[.bool b2,.slice a3 m3 c3,.slice a4 m4 c4]) x.hi0:=by
 obtain⟨b1,x1,y1,b2,x2,y2,rfl,h1,h2⟩:=r
 obtain⟨_,_,_,_,_,_,_,e1,_⟩:=h1.sa
 obtain⟨_,_,_,_,_,_,_,e2,_⟩:=h2.sa
 simp only[Value.agg.injEq,Array.mk.injEq,List.cons.injEq,and_true] at e1 e2
 obtain⟨_,rfl,rfl⟩:=e1
 obtain⟨_,rfl,rfl⟩:=e2
 exact⟨_,_,_,_,_,_,_,_,_,_,_,_,_,_,rfl,h1,h2⟩
theorem HY:sz 0≤1:=by decide
theorem NS.le_ends {k:Nat} {x:NS} (hk:1≤k):x.le k↔sz x.lo0≤k∧sz x.hi0≤k:=by
 have h0:sz 0≤k:=χ HY hk
 cases x with
 |e=>simp[NS.le,NS.all,NS.lo0,NS.hi0,h0]
 |i a b=>cases a<;>cases b<;>simp[NS.le,NS.all,NS.lo0,NS.hi0,h0]
theorem i6 {h:PH}:Spec mach 98 #[] h (fun v h'=>Rr h' v .e) NP:=by
 refine Spec.go [] Tryz.func98 rfl rfl (by kernel_rfl) fun C _=>?_
 try simp(maxSteps:=999999) (disch:=omega) only[go_sem,ξ,ζ]
 exact⟨_,_,_,_,_,_,rfl,Qr.none _,Qr.none _⟩
theorem RefOf {h0 h:PH} [Le h0 h] {v:Value} {x:RI} (hv:Iv h0 v x) (g:x.big=false):Spec mach 44 #[v] h (fun v h'=>Rr h' v x.set) NP:=by
 obtain⟨a1,m1,c1,a2,m2,c2,a3,m3,c3,a4,m4,c4,rfl,hx,hy⟩:=hv.sa
 obtain⟨g1,g2⟩:=RI.small g
 have z1:sz (qof x.n1 x.a1 x.d1)≤2^30:=by unfold Go.Q.lg at g1;omega
 have z2:sz (qof x.n2 x.a2 x.d2)≤2^30:=by unfold Go.Q.lg at g2;omega
 obtain⟨n1,a1',d1,n2,a2',d2,l,u⟩:=x
 dsimp only at*
 unfold RI.set RI.lo RI.hi NS.mk'
 dsimp only
 obtain⟨q1,hq1⟩:∃q,qof n1 a1' d1=q:=⟨_,rfl⟩
 obtain⟨q2,hq2⟩:∃q,qof n2 a2' d2=q:=⟨_,rfl⟩
 have k1:=fun {h} [Le h0 h]=>bM (h:=h) hx
 have k2:=fun {h} [Le h0 h]=>bM (h:=h) hy
 rw[hq1] at z1 k1 ⊢
 rw[hq2] at z2 k2 ⊢
 cases l with
 | true=>
  cases u with
  | true=>
   refine Spec.go [] Tryz.func44 rfl rfl (by kernel_rfl) fun C _=>?_
   try simp(maxSteps:=999999) (disch:=omega) only[go_sem,ξ,ζ]
   exact⟨_,_,_,_,_,_,rfl,Qr.none _,Qr.none _⟩
  | false=>
   refine Spec.go [] Tryz.func44 rfl rfl (by kernel_rfl) fun C _=>?_
   try simp(maxSteps:=999999) (disch:=omega) only[go_sem,ξ,ζ]
   refine caN (by exact k2) ?_;rintro _ h1 _ f1;obtain⟨_,_,_,_,_,_,_,rfl,f1⟩:=f1.sa
   try simp(maxSteps:=999999) (disch:=omega) only[go_sem,ξ,ζ]
   exact⟨_,_,_,_,_,_,rfl,Qr.none _,f1.to⟩
 | false=>
  cases u with
  | true=>
   refine Spec.go [] Tryz.func44 rfl rfl (by kernel_rfl) fun C _=>?_
   try simp(maxSteps:=999999) (disch:=omega) only[go_sem,ξ,ζ]
   refine caN (by exact k1) ?_;rintro _ h1 _ f1;obtain⟨_,_,_,_,_,_,_,rfl,f1⟩:=f1.sa
   try simp(maxSteps:=999999) (disch:=omega) only[go_sem,ξ,ζ]
   exact⟨_,_,_,_,_,_,rfl,f1.to,Qr.none _⟩
  | false=>
   by_cases hlt:q2 < q1
   ·have e1:0 < cmpQ q1 q2:=by unfold cmpQ;grind
    simp only[ordO,hlt,decide_true,Bool.not_true,cond_false]
    refine Spec.go [] Tryz.func44 rfl rfl (by kernel_rfl) fun C _=>?_
    try simp(maxSteps:=999999) (disch:=omega) only[go_sem,ξ,ζ]
    refine caN (by exact k1) ?_;rintro _ h1 _ f1;obtain⟨_,_,_,_,_,_,_,rfl,f1⟩:=f1.sa
    try simp(maxSteps:=999999) (disch:=omega) only[go_sem,ξ,ζ]
    refine caN (by exact k2) ?_;rintro _ h2 _ f2;obtain⟨_,_,_,_,_,_,_,rfl,f2⟩:=f2.sa
    try simp(maxSteps:=999999) (disch:=omega) only[go_sem,ξ,ζ]
    refine caN (by exact av (f1.to (h':=h2)) f2 (by omega) (by omega)) ?_;rintro v3 h3 s3 rfl
    try simp(maxSteps:=999999) (disch:=omega) only[go_sem,ξ,ζ]
    refine caN (by exact i6) ?_;rintro v4 h4 s4 hv4;obtain⟨_,_,_,_,_,_,_,_,_,_,_,_,_,_,rfl,t1,t2⟩:=hv4.sa
    try simp(maxSteps:=999999) (disch:=omega) only[go_sem,ξ,ζ]
    exact⟨_,_,_,_,_,_,rfl,t1.to,t2.to⟩
   ·have e1:¬0 < cmpQ q1 q2:=by unfold cmpQ;grind
    simp only[ordO,hlt,decide_false,Bool.not_false,cond_true]
    refine Spec.go [] Tryz.func44 rfl rfl (by kernel_rfl) fun C _=>?_
    try simp(maxSteps:=999999) (disch:=omega) only[go_sem,ξ,ζ]
    refine caN (by exact k1) ?_;rintro _ h1 _ f1;obtain⟨_,_,_,_,_,_,_,rfl,f1⟩:=f1.sa
    try simp(maxSteps:=999999) (disch:=omega) only[go_sem,ξ,ζ]
    refine caN (by exact k2) ?_;rintro _ h2 _ f2;obtain⟨_,_,_,_,_,_,_,rfl,f2⟩:=f2.sa
    try simp(maxSteps:=999999) (disch:=omega) only[go_sem,ξ,ζ]
    refine caN (by exact av (f1.to (h':=h2)) f2 (by omega) (by omega)) ?_;rintro v3 h3 s3 rfl
    try simp(maxSteps:=999999) (disch:=omega) only[go_sem,ξ,ζ]
    exact⟨_,_,_,_,_,_,rfl,f1.to,f2.to⟩
theorem jp {h0 h:PH} [Le h0 h] {v:Value} {x:NS} (hv:Rr h0 v x) (hf:x.le (2^36)):Spec mach 46 #[v] h (fun v h'=>Cv h' v x) NP:=by
 rw[NS.le_ends (by decide)] at hf
 obtain⟨_,_,_,_,_,_,_,_,_,_,_,_,_,_,rfl,t1,t2⟩:=hv.sa
 cases x with
 | e=>
  dsimp only[NS.void]
  refine Spec.go [(3,.o [0,1,3,4,6,7,8,9,2,5,10,11])] Tryz.func46 rfl rfl (by kernel_rfl) fun C _=>?_
  try simp(maxSteps:=999999) (disch:=omega) only[go_sem,ξ,ζ]
  refine caN (by exact aF (n:=1) (by decide) (by decide)) ?_;rintro _ h1 _ f1;obtain⟨_,_,_,_,_,_,_,rfl,f1⟩:=f1.sa
  try simp(maxSteps:=999999) (disch:=omega) only[go_sem,ξ,ζ]
  refine caN (by exact cA f1 (by decide)) ?_;rintro _ h2 _ f2;obtain⟨_,_,_,_,_,_,_,rfl,f2⟩:=f2.sa
  try simp(maxSteps:=999999) (disch:=omega) only[go_sem,ξ,ζ]
  exact⟨_,_,_,_,_,_,rfl,f2.to,Cn.zero _⟩
 | i a b=>
  dsimp only[NS.void,NS.loN,NS.hiN,NS.lo0,NS.hi0] at*
  refine Spec.go [(3,.o [0,1,3,4,6,7,8,9,2,5,10,11])] Tryz.func46 rfl rfl (by kernel_rfl) fun C _=>?_
  try simp(maxSteps:=999999) (disch:=omega) only[go_sem,ξ,ζ]
  refine caN (by exact cA t1 hf.1) ?_;rintro _ h1 _ f1;obtain⟨_,_,_,_,_,_,_,rfl,f1⟩:=f1.sa
  try simp(maxSteps:=999999) (disch:=omega) only[go_sem,ξ,ζ]
  refine caN (by exact cA t2 hf.2) ?_;rintro _ h2 _ f2;obtain⟨_,_,_,_,_,_,_,rfl,f2⟩:=f2.sa
  try simp(maxSteps:=999999) (disch:=omega) only[go_sem,ξ,ζ]
  exact⟨_,_,_,_,_,_,rfl,f1.to,f2.to⟩
theorem eZ {h0 h:PH} [Le h0 h] {v:Value} {x:RI} (hv:Iv h0 v x):Spec mach 43 #[v] h (fun r _=>r=.bool x.big) NP:=by
 obtain⟨a1,m1,c1,a2,m2,c2,a3,m3,c3,a4,m4,c4,rfl,hx,hy⟩:=hv.sa
 have k1:=fun {h} [Le h0 h]=>jJ (h:=h) hx
 have k2:=fun {h} [Le h0 h]=>jJ (h:=h) hy
 unfold RI.big
 obtain⟨l1,e1⟩:∃b,decide (lg x.n1 x.a1 x.d1)=b:=⟨_,rfl⟩
 obtain⟨l2,e2⟩:∃b,decide (lg x.n2 x.a2 x.d2)=b:=⟨_,rfl⟩
 rw[e1] at k1 ⊢
 rw[e2] at k2 ⊢
 cases l1 with
 | true=>
  refine Spec.go [] Tryz.func43 rfl rfl (by kernel_rfl) fun C _=>?_
  try simp(maxSteps:=999999) (disch:=omega) only[go_sem,ξ,ζ]
  refine caN (by exact k1) ?_;rintro v1 h1 s1 rfl
  try simp(maxSteps:=999999) (disch:=omega) only[go_sem,ξ,ζ]
  all_goals rfl
 | false=>
  refine Spec.go [] Tryz.func43 rfl rfl (by kernel_rfl) fun C _=>?_
  try simp(maxSteps:=999999) (disch:=omega) only[go_sem,ξ,ζ]
  refine caN (by exact k1) ?_;rintro v1 h1 s1 rfl
  try simp(maxSteps:=999999) (disch:=omega) only[go_sem,ξ,ζ]
  refine caN (by exact k2) ?_;rintro v2 h2 s2 rfl
  try simp(maxSteps:=999999) (disch:=omega) only[go_sem,ξ,ζ]
def R1 (h:PH) (r:Value):Out→Prop
 |.error e=>r=.tuple #[.agg #[.bool false,.slice none 0 0,.slice none 0 0,.bool false,.slice none 0 0,.slice none 0 0,.bool false,.bool false,.bool false],.int .i64 e]
 |.ok x=>∃u,r=.tuple #[u,.int .i64 0]∧Rr h u x
theorem e8 {h0 h:PH} [Le h0 h] {v:Value} {x:RI} {p:Int} (hv:Iv h0 v x) (g:x.big=true):Spec mach 129 #[v,.int .i64 p] h (fun r h'=>R1 h' r (.error 1)) NP:=by
 have hv0:=hv
 have kl:=fun {h} [Le h0 h]=>eZ (h:=h) hv
 rw[g] at kl
 obtain⟨a1,m1,c1,a2,m2,c2,a3,m3,c3,a4,m4,c4,rfl,hx,hy⟩:=hv.sa
 refine Spec.go [] Tryz.func129 rfl rfl (by kernel_rfl) fun C _=>?_
 try simp(maxSteps:=999999) (disch:=omega) only[go_sem,ξ,ζ]
 refine caN (by exact kl) ?_;rintro v1 h1 s1 rfl
 try simp(maxSteps:=999999) (disch:=omega) only[go_sem,ξ,ζ]
 all_goals rfl
theorem R1.err {h:PH} {r:Value} {e:Int} (k:R1 h r (.error e)):r=.tuple #[.agg #[.bool false,.slice none 0 0,.slice none 0 0,.bool false,.slice none 0 0,.slice none 0 0,.bool false,.bool false,.bool false],.int .i64 e]:=k
theorem R1.ok {h:PH} {r:Value} {x:NS} (k:R1 h r (.ok x)):∃b1 a1 m1 c1 a2 m2 c2 b2 a3 m3 c3 a4 m4 c4,r=.tuple #[.agg #[.bool b1,.slice a1 m1 c1,.slice a2 m2 c2,.bool b2,.slice a3 m3 c3,.slice a4 m4 c4,.bool x.loN,.bool x.hiN,.bool x.void],.int .i64 0]∧Rr h (.agg #[.bool b1,.slice a1 m1 c1,.slice a2 m2 c2,.bool b2,.slice a3 m3 c3,.slice a4 m4 c4,.bool x.loN,.bool x.hiN,.bool x.void]) x:=by
 obtain⟨u,rfl,k⟩:=k
 have k0:=k
 obtain⟨_,_,_,_,_,_,_,_,_,_,_,_,_,_,rfl,_,_⟩:=k.sa
 exact⟨_,_,_,_,_,_,_,_,_,_,_,_,_,_,rfl,k0⟩
end Go.Q
