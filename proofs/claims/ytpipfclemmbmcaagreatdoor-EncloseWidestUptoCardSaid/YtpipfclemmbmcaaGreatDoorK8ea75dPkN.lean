/-
  Contracts of package interval's exported functions, and what stands on it. Conditions: each theorem's own.
-/
import Derived.Test.YtpipfclemmbmcaaGreatDoorKa50d49PkG
import Derived.Test.YtpipfclemmbmcaaGreatDoorK187654PkM
import Derived.Test.YtpipfclemmbmcaaGreatDoorK5832d9PkL
import Derived.Test.YtpipfclemmbmcaaGreatDoorK4b44ebPkI
import Derived.Test.YtpipfclemmbmcaaGreatDoorKcf3b7fPkA
import Derived.Test.YtpipfclemmbmcaaGreatDoorK4a744ePkD
set_option linter.unusedVariables false
set_option linter.unusedSimpArgs false
open Nat renaming reduceBEq→ξ,reduceAdd→ζ,le_trans→χ,le_refl→η,zero_le→qBh,mod_eq_of_lt→qBi,lt_or_ge→qBj
open List renaming length_append→qAp,all_eq_true→qBd
open Bool renaming false_eq_true→qAw
namespace Go.Q
open Go.Proofs
set_option maxRecDepth 100000
set_option maxHeartbeats 4000000
def bad (p:Int):Bool:=decide (p < 0) || decide (128 < p)
theorem jt {p:Int} (h:bad p=false):0≤p∧p≤128:=by
 unfold bad at h
 simp only[Bool.or_eq_false_iff,decide_eq_false_iff_not] at h
 omega
theorem i7 {p:Int} (h:bad p=true):p < 0∨128 < p:=by
 unfold bad at h
 simpa using h
def Out.prec (p:Int) (o:Out):Out:=bif bad p then .error 2 else o
theorem NS.le30 {x:NS} (h:x.le 2048):x.le (2^30):=h.up (by decide)
theorem RI.le30 {x:RI} (h:x.big=false):x.set.le (2^30):=NS.le30 (RI.le h)
theorem Ah {h0 h:PH} [Le h0 h] {v:Value} {x:NS} {p:Int} (hv:Sn h0 v x) (hf:x.le (2^30)) (hp:0≤p∧p≤128):
  Spec mach 212 #[v,.int .i64 p] h (fun v h'=>Sn h' v (x.hull p.toNat)) NP:=by
 have:=Hull_set (h:=h) (p:=p.toNat) hv hf (by omega)
 rwa[show((p.toNat:Nat):Int)=p by omega] at this
theorem Does.mk {f:FuncId} {args:Array Value} {h:PH} {x:NS} (s:Spec mach f args h (fun v h'=>Sn h' v x) NP):Does f args h (.ok x):=s
theorem Round1 {h0 h:PH} [Le h0 h] {s:Value} {x:NS} {p:Int} {b:Nat} (hs:Sd h0 s x) (hf:x.le (2^30)) (hb:h b=some #[.int .i64 p]):Does 234 #[s,.pointer (some ⟨b,0,none⟩)] h (Out.prec p (.ok (x.hull p.toNat))):=by
 obtain⟨_,_,_,_,_,_,_,_,_,_,_,_,_,_,_,_,rfl,hs⟩:=hs.sa
 unfold Out.prec
 cases g:bad p with
 | true=>
  show Spec _ _ _ _ NR (fail 2)
  refine Spec.go [] Tryz.func234 rfl rfl (by kernel_rfl) fun C _=>?_
  try simp(maxSteps:=999999) (disch:=omega) only[go_sem,ξ,ζ]
  refine aE (aK hb) ?_
  try simp(maxSteps:=999999) (disch:=omega) only[go_sem,ξ,ζ]
  exact caF (by exact iN (i7 g)) (fun _ _ h=>h)
 | false=>
  show Spec _ _ _ _ _ NP
  have hp:=jt g
  refine Spec.go [] Tryz.func234 rfl rfl (by kernel_rfl) fun C _=>?_
  try simp(maxSteps:=999999) (disch:=omega) only[go_sem,ξ,ζ]
  refine aE (aK hb) ?_
  try simp(maxSteps:=999999) (disch:=omega) only[go_sem,ξ,ζ]
  refine caN (by exact aU hp.1 hp.2) ?_;rintro v1 h1 st1 _
  try simp(maxSteps:=999999) (disch:=omega) only[go_sem,ξ,ζ]
  refine aE (aK (st1.sub _ _ hb)) ?_
  try simp(maxSteps:=999999) (disch:=omega) only[go_sem,ξ,ζ]
  refine caN (by exact Ah hs.sn hf hp) ?_;rintro s2 h2 st2 hs2;obtain⟨_,_,_,_,_,_,_,_,_,_,_,_,_,_,_,_,rfl,hs2⟩:=hs2.sa
  try simp(maxSteps:=999999) (disch:=omega) only[go_sem,ξ,ζ]
  exact hs2
theorem du {h0 h:PH} [Le h0 h] {v:Value} {x:RI} {p:Int} (hv:Iv h0 v x):Spec mach 190 #[v,.int .i64 p] h (fun r h'=>Ir h' r (x.fin (Out.prec p (.ok (x.set.hull p.toNat))))) NP:=by
 have hv0:=hv
 obtain⟨a1,m1,c1,a2,m2,c2,a3,m3,c3,a4,m4,c4,rfl,_,_⟩:=hv.sa
 refine Spec.go [(1,.t (.p 1 (.s [0,1,2,3,4,5,6] .d)))] Tryz.func190 rfl rfl (by kernel_rfl) fun C _=>?_
 try simp(maxSteps:=999999) (disch:=omega) only[go_sem,ξ,ζ]
 intro b h1 st1 hb
 try simp(maxSteps:=999999) (disch:=omega) only[go_sem,ξ,ζ]
 have hb:=hb (by simp)
 refine caN (by exact jX (hv0.to (h':=h1)) (fun g h' i s hs=>Round1 hs (RI.le30 g) (i.sub _ _ hb))) ?_;rintro r3 h3 st3 hr3;obtain⟨_,_,_,_,_,_,_,_,_,_,_,_,_,_,_,_,_,rfl,hr3⟩:=hr3.sa
 try simp(maxSteps:=999999) (disch:=omega) only[go_sem,ξ,ζ]
 exact hr3
theorem Iv.mk {h:PH} {b b':Bool} {x y x' y':Value} {n1 n2:Bool} {a1 d1 a2 d2:Nat} (hv:Rw h (.agg #[.bool b,x,y]) n1 a1 d1) (hw:Rw h (.agg #[.bool b',x',y']) n2 a2 d2) (l u:Bool):Iv h (.agg #[.bool b,x,y,.bool b',x',y',.bool l,.bool u]) ⟨n1,a1,d1,n2,a2,d2,l,u⟩:=by
 have e1:=hv
 have e2:=hw
 obtain⟨_,_,_,_,_,_,e1,_⟩:=e1
 obtain⟨_,_,_,_,_,_,e2,_⟩:=e2
 simp only[Value.agg.injEq,Array.mk.injEq,List.cons.injEq,and_true,Value.bool.injEq] at e1 e2
 obtain⟨rfl,_,_⟩:=e1
 obtain⟨rfl,_,_⟩:=e2
 exact⟨_,_,_,_,rfl,hv,hw⟩
theorem NS.le.minus {x:NS} {k:Nat} (h:x.le k):x.minus.le k:=by
 cases x with
 |e=>exact h
 | i a b=>
  rw[NS.le_i] at h
  show NS.le k (.i (b.map (-·)) (a.map (-·)))
  rw[NS.le_i]
  refine⟨fun q e=>?_,fun q e=>?_⟩
  ·cases b with
   |none=>cases e
   |some b=>cases e;rw[cz];exact h.2 _ rfl
  ·cases a with
   |none=>cases e
   |some a=>cases e;rw[cz];exact h.1 _ rfl
def rnd (p:Int) (x y:NS) (o:Out):Out:=Out.prec p (bif x.void || y.void then .ok .e else match o with |.error e=>.error e |.ok z=>.ok (z.hull p.toNat))
theorem yW {h0 h:PH} [Le h0 h] {s t:Value} {x y:NS} {p:Int} {f:FuncId} {cap:Array Value} {b1 b2:Nat} {o:Out} (hs:Sd h0 s x) (ht:Sd h0 t y) (hb1:h b1=some #[.int .i64 p]) (hb2:h b2=some #[.func (.func f) #[] cap])
  (hd:x.void=false→y.void=false→∀(h':PH) [Le h h'] (s t:Value),Sd h' s x→Sd h' t y→Does f (s :: t :: cap.toList).toArray h' o) (hl:∀z,o=.ok z→z.le (2^30)):
  Does 210 #[s,t,.pointer (some ⟨b1,0,none⟩),.pointer (some ⟨b2,0,none⟩)] h (rnd p x y o):=by
 obtain⟨_,_,_,_,_,_,_,_,_,_,_,_,_,_,_,_,rfl,hs⟩:=hs.sa
 obtain⟨_,_,_,_,_,_,_,_,_,_,_,_,_,_,_,_,rfl,ht⟩:=ht.sa
 unfold rnd Out.prec
 cases g:bad p with
 | true=>
  show Spec _ _ _ _ NR (fail 2)
  refine Spec.go [(4,.o [0,1,2,4,3,5,6])] Tryz.func210 rfl rfl (by kernel_rfl) fun C _=>?_
  try simp(maxSteps:=999999) (disch:=omega) only[go_sem,ξ,ζ]
  refine aE (aK hb1) ?_
  try simp(maxSteps:=999999) (disch:=omega) only[go_sem,ξ,ζ]
  exact caF (by exact iN (i7 g)) (fun _ _ h=>h)
 | false =>
  have hp:=jt g
  dsimp only[cond_false]
  cases gx:x.void with
  | true=>
   rw[gx] at hs
   show Spec _ _ _ _ _ NP
   refine Spec.go [(4,.o [0,1,2,4,3,5,6])] Tryz.func210 rfl rfl (by kernel_rfl) fun C _=>?_
   try simp(maxSteps:=999999) (disch:=omega) only[go_sem,ξ,ζ]
   refine aE (aK hb1) ?_
   try simp(maxSteps:=999999) (disch:=omega) only[go_sem,ξ,ζ]
   refine caN (by exact aU hp.1 hp.2) ?_;rintro v1 h1 st1 _
   try simp(maxSteps:=999999) (disch:=omega) only[go_sem,ξ,ζ]
   exact⟨_,_,_,_,_,_,_,_,rfl,En.nil _,En.nil _⟩
  | false=>
   rw[gx] at hs
   cases gy:y.void with
   | true=>
    rw[gy] at ht
    show Spec _ _ _ _ _ NP
    refine Spec.go [(4,.o [0,1,2,4,3,5,6])] Tryz.func210 rfl rfl (by kernel_rfl) fun C _=>?_
    try simp(maxSteps:=999999) (disch:=omega) only[go_sem,ξ,ζ]
    refine aE (aK hb1) ?_
    try simp(maxSteps:=999999) (disch:=omega) only[go_sem,ξ,ζ]
    refine caN (by exact aU hp.1 hp.2) ?_;rintro v1 h1 st1 _
    try simp(maxSteps:=999999) (disch:=omega) only[go_sem,ξ,ζ]
    exact⟨_,_,_,_,_,_,_,_,rfl,En.nil _,En.nil _⟩
   | false=>
    rw[gy] at ht
    have hd:=hd gx gy
    cases o with
    | error e=>
     show Spec _ _ _ _ NR (fail e)
     refine Spec.go [(4,.o [0,1,2,4,3,5,6])] Tryz.func210 rfl rfl (by kernel_rfl) fun C _=>?_
     try simp(maxSteps:=999999) (disch:=omega) only[go_sem,ξ,ζ]
     refine aE (aK hb1) ?_
     try simp(maxSteps:=999999) (disch:=omega) only[go_sem,ξ,ζ]
     refine caN (by exact aU hp.1 hp.2) ?_;rintro v1 h1 st1 _
     try simp(maxSteps:=999999) (disch:=omega) only[go_sem,ξ,ζ]
     refine aE (aK (st1.sub _ _ hb2)) ?_
     try simp(maxSteps:=999999) (disch:=omega) only[go_sem,ξ,ζ]
     refine aE (aK (st1.sub _ _ hb1)) ?_
     try simp(maxSteps:=999999) (disch:=omega) only[go_sem,ξ,ζ]
     exact caF (by exact(hd _ _ _ hs.to ht.to).err) (fun _ _ h=>h)
    | ok z=>
     show Spec _ _ _ _ _ NP
     refine Spec.go [(4,.o [0,1,2,4,3,5,6])] Tryz.func210 rfl rfl (by kernel_rfl) fun C _=>?_
     try simp(maxSteps:=999999) (disch:=omega) only[go_sem,ξ,ζ]
     refine aE (aK hb1) ?_
     try simp(maxSteps:=999999) (disch:=omega) only[go_sem,ξ,ζ]
     refine caN (by exact aU hp.1 hp.2) ?_;rintro v1 h1 st1 _
     try simp(maxSteps:=999999) (disch:=omega) only[go_sem,ξ,ζ]
     refine aE (aK (st1.sub _ _ hb2)) ?_
     try simp(maxSteps:=999999) (disch:=omega) only[go_sem,ξ,ζ]
     refine aE (aK (st1.sub _ _ hb1)) ?_
     try simp(maxSteps:=999999) (disch:=omega) only[go_sem,ξ,ζ]
     refine caN (by exact(hd _ _ _ hs.to ht.to).ok) ?_;rintro v2 h2 st2 hv2
     try simp(maxSteps:=999999) (disch:=omega) only[go_sem,ξ,ζ]
     refine caN (by exact Ah hv2 (hl _ rfl) hp) ?_;rintro _ h3 _ hv3;obtain⟨_,_,_,_,_,_,_,_,_,_,_,_,_,_,_,_,rfl,hv3⟩:=hv3.sa
     try simp(maxSteps:=999999) (disch:=omega) only[go_sem,ξ,ζ]
     exact hv3
theorem mC {h0 h:PH} [Le h0 h] {v w:Value} {x y:RI} {p:Int} {f:FuncId} {cap:Array Value} {o:Out} (hv:Iv h0 v x) (hw:Iv h0 w y)
  (hd:x.big=false→y.big=false→x.set.void=false→y.set.void=false→∀(h':PH) [Le h h'] (s t:Value),Sd h' s x.set→Sd h' t y.set→Does f (s :: t :: cap.toList).toArray h' o) (hl:x.big=false→y.big=false→∀z,o=.ok z→z.le (2^30)):
  Spec mach 153 #[v,w,.int .i64 p,.func (.func f) #[] cap] h (fun r h'=>Ir h' r (x.fin2 y (rnd p x.set y.set o))) NP:=by
 have hv0:=hv
 have hw0:=hw
 obtain⟨a1,m1,c1,a2,m2,c2,a3,m3,c3,a4,m4,c4,rfl,_,_⟩:=hv.sa
 obtain⟨a1',m1',c1',a2',m2',c2',a3',m3',c3',a4',m4',c4',rfl,_,_⟩:=hw.sa
 refine Spec.go [(1,.t (.p 2 (.p 3 (.s [0,1,2,3,4,5,6,7] .d))))] Tryz.func153 rfl rfl (by kernel_rfl) fun C _=>?_
 try simp(maxSteps:=999999) (disch:=omega) only[go_sem,ξ,ζ]
 intro b1 h1 st1 hb1
 try simp(maxSteps:=999999) (disch:=omega) only[go_sem,ξ,ζ]
 intro b2 h2 st2 hb2
 try simp(maxSteps:=999999) (disch:=omega) only[go_sem,ξ,ζ]
 have hb2:=hb2 (by simp)
 have hb1:=st2.sub _ _ (hb1 (by simp))
 refine caN (by exact mV (hv0.to (h':=h2)) (hw0.to (h':=h2)) (fun g g' h' i s t hs ht=>yW hs ht (i.sub _ _ hb1) (i.sub _ _ hb2) (fun k k' h'' i' s t hs ht=>@hd g g' k k' h'' (Le.tr (Le.tr inferInstance i) i') s t hs ht) (hl g g'))) ?_;rintro _ h4 _ hr4;obtain⟨_,_,_,_,_,_,_,_,_,_,_,_,_,_,_,_,_,rfl,hr4⟩:=hr4.sa
 try simp(maxSteps:=999999) (disch:=omega) only[go_sem,ξ,ζ]
 exact hr4
theorem NS.le.sum {x y:NS} (hx:x.le 2048) (hy:y.le 2048):(x.sum y).le (2^30):=by
  cases x with
  |e=>rfl
  | i a b =>cases y with
    |e=>rfl
    | i c d =>
      rw[NS.le_i] at hx hy
      show NS.le _ (.i (oadd a c) (oadd b d))
      rw[NS.le_i]
      refine⟨fun q e=>?_,fun q e=>?_⟩
      · cases a with
        |none=>cases e
        | some a=>cases c with
          |none=>cases e
          | some c=>
            cases e
            have:=dA a c
            have:=hx.1 _ rfl
            have:=hy.1 _ rfl
            omega
      · cases b with
        |none=>cases e
        | some b=>cases d with
          |none=>cases e
          | some d=>
            cases e
            have:=dA b d
            have:=hx.2 _ rfl
            have:=hy.2 _ rfl
            omega
theorem Sum1 {h0 h:PH} [Le h0 h] {s t:Value} {x y:NS} (hs:Sn h0 s x) (ht:Sn h0 t y) (gx:x.void=false) (gy:y.void=false) (lx:x.le (2^30)) (ly:y.le (2^30)):Spec mach 160 #[s,t] h (fun v h'=>Sn h' v (x.sum y)) NP:=by
 cases x with
 |e=>cases gx
 | i a b=>cases y with
  |e=>cases gy
  |i c d=>exact sum_set hs ht lx ly
theorem jf {h0 h:PH} [Le h0 h] {v w:Value} {x y:RI} {p:Int} (hv:Iv h0 v x) (hw:Iv h0 w y):Spec mach 197 #[v,w,.int .i64 p] h (fun r h'=>Ir h' r (x.fin2 y (rnd p x.set y.set (.ok (x.set.sum y.set))))) NP:=by
 have hv0:=hv
 have hw0:=hw
 obtain⟨a1,m1,c1,a2,m2,c2,a3,m3,c3,a4,m4,c4,rfl,_,_⟩:=hv.sa
 obtain⟨a1',m1',c1',a2',m2',c2',a3',m3',c3',a4',m4',c4',rfl,_,_⟩:=hw.sa
 refine Spec.go [] Tryz.func197 rfl rfl (by kernel_rfl) fun C _=>?_
 try simp(maxSteps:=999999) (disch:=omega) only[go_sem,ξ,ζ]
 refine caN (by exact mC hv0 hw0 (fun g g' k k' h' _ s t hs ht=>Does.mk (Sum1 hs.sn ht.sn k k' (RI.le30 g) (RI.le30 g'))) (fun g g' z e=>by cases e;exact NS.le.sum (RI.le g) (RI.le g'))) ?_;rintro _ h3 _ hr3;obtain⟨_,_,_,_,_,_,_,_,_,_,_,_,_,_,_,_,_,rfl,hr3⟩:=hr3.sa
 try simp(maxSteps:=999999) (disch:=omega) only[go_sem,ξ,ζ]
 exact hr3
namespace NS
theorem has_i {a b:Option Rat} {q:Rat}:(NS.i a b).has q=true↔(∀x,a=some x→x≤q)∧(∀x,b=some x→q≤x):=by
 cases a<;>cases b<;>simp[has]<;>grind
theorem ne_has {a b:Option Rat} (h:ordO a b=true):∃q,(NS.i a b).has q=true:=by
 cases a with
 | none=>cases b with
  |none=>exact⟨0,by simp[has]⟩
  |some b=>exact⟨b,by simp[has]<;>grind⟩
 | some a=>cases b with
  |none=>exact⟨a,by simp[has]<;>grind⟩
  |some b=>exact⟨a,by simp[ordO] at h;simp[has];grind⟩
theorem low_has {b:Option Rat} (c:Rat):∃q,q < c∧(NS.i none b).has q=true:=by
 cases b with
 |none=>exact⟨c - 1,by grind,by simp[has]⟩
 |some b=>exact⟨min (c - 1) b,by grind,by simp[has]<;>grind⟩
theorem high_has {a:Option Rat} (c:Rat):∃q,c < q∧(NS.i a none).has q=true:=by
 cases a with
 |none=>exact⟨c+1,by grind,by simp[has]⟩
 |some a=>exact⟨max (c+1) a,by grind,by simp[has]<;>grind⟩
theorem lo_has {a:Rat} {b:Option Rat} (h:ordO (some a) b=true):(NS.i (some a) b).has a=true:=by
 cases b with
 |none=>simp[has]<;>grind
 |some b=>simp[ordO] at h;simp[has];grind
theorem hi_has {a:Option Rat} {b:Rat} (h:ordO a (some b)=true):(NS.i a (some b)).has b=true:=by
 cases a with
 |none=>simp[has]<;>grind
 |some a=>simp[ordO] at h;simp[has];grind
theorem within_iff {x y:NS} (hx:x.ok):x.within y=true↔∀q,x.has q=true→y.has q=true:=by
 cases x with
 |e=>simp[within,has]
 | i a b =>
  cases y with
  | e=>
   obtain⟨q,hq⟩:=ne_has hx
   simp only[within,has,qAw,false_iff]
   exact fun h=>h q hq
  | i c d =>
   constructor
   ·intro h q hq
    rw[has_i] at hq ⊢
    cases a<;>cases b<;>cases c<;>cases d<;>simp[within,lowIn,highIn] at h hq ⊢<;>grind
   ·intro h
    have h1:lowIn c a=true:=by
     cases c with
     |none=>rfl
     | some c=>cases a with
      | none=>
       obtain⟨q,hc,hq⟩:=low_has (b:=b) c
       have:=has_i.1 (h q hq)
       have:=this.1 c rfl
       grind
      | some a=>
       have:=has_i.1 (h a (lo_has hx))
       have:=this.1 c rfl
       simp[lowIn,highIn];grind
    have h2:highIn d b=true:=by
     cases d with
     |none=>rfl
     | some d=>cases b with
      | none=>
       obtain⟨q,hc,hq⟩:=high_has (a:=a) d
       have:=has_i.1 (h q hq)
       have:=this.2 d rfl
       grind
      | some b=>
       have:=has_i.1 (h b (hi_has hx))
       have:=this.2 d rfl
       simp[lowIn,highIn];grind
    simp only[within,h1,h2,Bool.and_self]
theorem anti {x y:NS} (hx:x.ok) (hy:y.ok) (h1:x.within y=true) (h2:y.within x=true):x=y:=by
 cases x with
 | e=>cases y with
  |e=>rfl
  |i c d=>cases h2
 | i a b=>cases y with
  |e=>cases h1
  | i c d=>
   cases a<;>cases b<;>cases c<;>cases d<;>simp[within,lowIn,highIn] at h1 h2 ⊢<;>grind
theorem ext {x y:NS} (hx:x.ok) (hy:y.ok) (h:∀q,x.has q=y.has q):x=y:=
 anti hx hy ((within_iff hx).2 fun q k=>by rw[←h];exact k) ((within_iff hy).2 fun q k=>by rw[h];exact k)
end NS
namespace NS
end NS
def Bd (f:FuncId) (args:Array Value) (h:PH):Except Int Bool→Prop
 |.ok b=>Spec mach f args h (fun v _=>v=.bool b) NP
 |.error e=>Spec mach f args h NR (fail e)
def Br (r:Value):Except Int Bool→Prop
 |.ok b=>r=.tuple #[.bool b,.int .i64 0]
 |.error e=>r=.tuple #[.bool false,.int .i64 e]
theorem Br.sa {r:Value} {o:Except Int Bool} (k:Br r o):∃b e,r=.tuple #[.bool b,.int .i64 e]∧Br (.tuple #[.bool b,.int .i64 e]) o:=by
 cases o with
 |ok b=>exact⟨_,_,k,rfl⟩
 |error e=>exact⟨_,_,k,rfl⟩
theorem tU {h:PH} {f:FuncId} {cap:Array Value} {o:Except Int Bool} (g:Bd f cap h o):Spec mach 74 #[.func (.func f) #[] cap] h (fun r _=>Br r o) NP:=by
 cases o with
 |ok b=>exact tryBo_ok g (fun v h' _ r=>by subst r;exact⟨⟨b,rfl,rfl⟩,rfl⟩)
 |error e=>exact FZ g (fun _ _=>rfl)
theorem Sf.sa {h:PH} {v:Value} {s:PS} (r:Sf h v s):∃b1 a1 m1 c1 a2 m2 c2 b2 a3 m3 c3 a4 m4 c4,v=.agg #[.bool b1,.slice a1 m1 c1,.slice a2 m2 c2,.bool b2,.slice a3 m3 c3,.slice a4 m4 c4,.bool s.l,.bool s.u,.bool s.e]∧
  Fr h (.agg #[.bool b1,.slice a1 m1 c1,.slice a2 m2 c2]) s.lo∧Fr h (.agg #[.bool b2,.slice a3 m3 c3,.slice a4 m4 c4]) s.hi:=by
 obtain⟨b1,x1,y1,b2,x2,y2,rfl,h1,h2⟩:=r
 obtain⟨_,_,_,_,_,_,_,e1,_⟩:=h1.sa
 obtain⟨_,_,_,_,_,_,_,e2,_⟩:=h2.sa
 simp only[Value.agg.injEq,Array.mk.injEq,List.cons.injEq,and_true] at e1 e2
 obtain⟨_,rfl,rfl⟩:=e1
 obtain⟨_,rfl,rfl⟩:=e2
 exact⟨_,_,_,_,_,_,_,_,_,_,_,_,_,_,rfl,h1,h2⟩

def NS.size:NS→NS
 |.e=>.e
 |.i a b=>if 0≤(NS.i a b).slo then .i a b else if (NS.i a b).shi≤0 then (NS.i a b).minus else .i (some ((0:Int):Rat)) (jmax (a.map (-·)) b)
theorem NS.size_i {a b:Option Rat}:(NS.i a b).size=if 0≤(NS.i a b).slo then .i a b else if (NS.i a b).shi≤0 then (NS.i a b).minus else .i (some ((0:Int):Rat)) (jmax (a.map (-·)) b):=rfl
theorem NS.le.size {x:NS} {k:Nat} (hk:1≤k) (h:x.le k):x.size.le k:=by
 cases x with
 |e=>exact h
 | i a b =>
  rw[NS.size_i]
  split
  ·exact h
  ·split
   ·exact h.minus
   ·rw[NS.le_i] at h ⊢
    refine⟨fun q e=>?_,fun q e=>?_⟩
    ·cases e;exact χ (by decide) hk
    ·cases a with
     |none=>cases e
     | some a=>
      cases b with
      |none=>cases e
      |some b=>cases e;exact px (by rw[cz];exact h.1 _ rfl) (h.2 _ rfl)
def NS.fin:NS→Bool
 |.e=>true
 |.i a b=>!a.isNone && !b.isNone
def RI.bo (x:RI) (b:Bool):Except Int Bool:=bif x.big then .error 1 else .ok b
theorem IsEmpty1 {h0 h:PH} [Le h0 h] {v:Value} {x:RI} {b1:Nat} {cs:List Value} (hv:Iv h0 v x) (hc:v=.agg cs.toArray) (hl:cs.length=8) (hb1:h b1=some cs.toArray):
  Bd 75 #[.pointer (some ⟨b1,0,none⟩)] h (x.bo x.set.void):=by
 subst hc
 unfold RI.bo
 cases g:x.big with
 | true=>
  dsimp only[cond_true]
  refine Spec.enter (args:=[_]) (n:=5) Tryz.func75 rfl (by kernel_rfl) rfl (by simp) [.tmp 1] rfl (fun C _=>?_)
  repeat (first |(refine wo rfl (fun k hk=>?_);simp(disch:=omega) only[go_sem,ξ,ζ];apply hk;clear hk k) |refine wkt rfl ?_ |refine wk0 ?_ |refine rg rfl rfl (fun K hK=>?_) |((first |refine ae ?_ |refine ac ?_);simp(disch:=decide) only[qs,qb,if_true,if_false,reduceIte]) |refine ah rfl (fun K hK=>?_) |refine ct rfl ?_ |((try simp(disch:=omega) only[go_sem,ξ,ζ]);(first |apply hK |(clear hK;apply hK) |(clear hK;clear hK;apply hK));clear hK;(try clear K);(try dsimp only[ag,qs,qb])))
  refine wk (fun k hk=>?_);simp(disch:=omega) only[go_sem,ξ,ζ];refine⟨cs,hl,fG hb1,?_⟩;apply hk;clear hk k;(repeat (first |(refine wo rfl (fun k hk=>?_);simp(disch:=omega) only[go_sem,ξ,ζ];apply hk;clear hk k) |refine wkt rfl ?_));(try refine wk0 ?_)
  exact cF rfl rfl rfl rfl (by exact fF hv g) (fun _ _ h=>h)
 | false=>
  dsimp only[cond_false]
  have kR:=fun {h} [Le h0 h]=>dK (h:=h) hv g
  generalize x.set=s at*
  cases s with
  | e=>
   refine Spec.enter (args:=[_]) (n:=5) Tryz.func75 rfl (by kernel_rfl) rfl (by simp) [.tmp 1] rfl (fun C _=>?_)
   repeat (first |(refine wo rfl (fun k hk=>?_);simp(disch:=omega) only[go_sem,ξ,ζ];apply hk;clear hk k) |refine wkt rfl ?_ |refine wk0 ?_ |refine rg rfl rfl (fun K hK=>?_) |((first |refine ae ?_ |refine ac ?_);simp(disch:=decide) only[qs,qb,if_true,if_false,reduceIte]) |refine ah rfl (fun K hK=>?_) |refine ct rfl ?_ |((try simp(disch:=omega) only[go_sem,ξ,ζ]);(first |apply hK |(clear hK;apply hK) |(clear hK;clear hK;apply hK));clear hK;(try clear K);(try dsimp only[ag,qs,qb])))
   refine wk (fun k hk=>?_);simp(disch:=omega) only[go_sem,ξ,ζ];refine⟨cs,hl,fG hb1,?_⟩;apply hk;clear hk k;(repeat (first |(refine wo rfl (fun k hk=>?_);simp(disch:=omega) only[go_sem,ξ,ζ];apply hk;clear hk k) |refine wkt rfl ?_));(try refine wk0 ?_)
   refine cN rfl rfl rfl rfl (by exact kR) ?_;rintro s1 h1 st1 hs1;obtain⟨_,_,_,_,_,_,_,_,_,_,_,_,_,_,_,_,rfl,hs1⟩:=hs1.ee
   repeat (first |(refine wo rfl (fun k hk=>?_);simp(disch:=omega) only[go_sem,ξ,ζ];apply hk;clear hk k) |refine wkt rfl ?_ |refine wk0 ?_ |refine rg rfl rfl (fun K hK=>?_) |((first |refine ae ?_ |refine ac ?_);simp(disch:=decide) only[qs,qb,if_true,if_false,reduceIte]) |refine ah rfl (fun K hK=>?_) |refine ct rfl ?_ |((try simp(disch:=omega) only[go_sem,ξ,ζ]);(first |apply hK |(clear hK;apply hK) |(clear hK;clear hK;apply hK));clear hK;(try clear K);(try dsimp only[ag,qs,qb])))
   refine ai ?_;simp(disch:=omega) only[go_sem,ξ,ζ]
   all_goals rfl
  | i a b=>
   have kR:=fun {h} [Le h0 h]=>(kR (h:=h)).mono (R':=fun v h'=>Sn h' v (.i a b)) (E':=NP) (fun _ _ _ k=>k) (fun _ _ _ k=>k)
   cases a<;>cases b<;>
   ·refine Spec.enter (args:=[_]) (n:=5) Tryz.func75 rfl (by kernel_rfl) rfl (by simp) [.tmp 1] rfl (fun C _=>?_)
    repeat (first |(refine wo rfl (fun k hk=>?_);simp(disch:=omega) only[go_sem,ξ,ζ];apply hk;clear hk k) |refine wkt rfl ?_ |refine wk0 ?_ |refine rg rfl rfl (fun K hK=>?_) |((first |refine ae ?_ |refine ac ?_);simp(disch:=decide) only[qs,qb,if_true,if_false,reduceIte]) |refine ah rfl (fun K hK=>?_) |refine ct rfl ?_ |((try simp(disch:=omega) only[go_sem,ξ,ζ]);(first |apply hK |(clear hK;apply hK) |(clear hK;clear hK;apply hK));clear hK;(try clear K);(try dsimp only[ag,qs,qb])))
    refine wk (fun k hk=>?_);simp(disch:=omega) only[go_sem,ξ,ζ];refine⟨cs,hl,fG hb1,?_⟩;apply hk;clear hk k;(repeat (first |(refine wo rfl (fun k hk=>?_);simp(disch:=omega) only[go_sem,ξ,ζ];apply hk;clear hk k) |refine wkt rfl ?_));(try refine wk0 ?_)
    refine cN rfl rfl rfl rfl (by exact kR) ?_;rintro s1 h1 st1 hs1;obtain⟨_,_,_,_,_,_,_,_,_,_,_,_,_,_,rfl,e1,e2⟩:=hs1.ie;(repeat (first |(refine wo rfl (fun k hk=>?_);simp(disch:=omega) only[go_sem,ξ,ζ];apply hk;clear hk k) |refine wkt rfl ?_));(try refine wk0 ?_)
    (try (simp(disch:=omega) only[go_sem,ξ,ζ]));apply hK;clear hK;(try clear K);(try dsimp only[ag,qs])
    dsimp only[Option.isNone]
    repeat (first |(refine wo rfl (fun k hk=>?_);simp(disch:=omega) only[go_sem,ξ,ζ];apply hk;clear hk k) |refine wkt rfl ?_ |refine wk0 ?_ |refine rg rfl rfl (fun K hK=>?_) |((first |refine ae ?_ |refine ac ?_);simp(disch:=decide) only[qs,qb,if_true,if_false,reduceIte]) |refine ah rfl (fun K hK=>?_) |refine ct rfl ?_ |((try simp(disch:=omega) only[go_sem,ξ,ζ]);(first |apply hK |(clear hK;apply hK) |(clear hK;clear hK;apply hK));clear hK;(try clear K);(try dsimp only[ag,qs,qb])))
    refine ai ?_;simp(disch:=omega) only[go_sem,ξ,ζ]
    all_goals rfl
theorem sI {h0 h:PH} [Le h0 h] {v:Value} {x:RI} (hv:Iv h0 v x):Spec mach 36 #[v] h (fun r _=>Br r (x.bo x.set.void)) NP:=by
 have hv0:=hv
 obtain⟨a1,m1,c1,a2,m2,c2,a3,m3,c3,a4,m4,c4,rfl,_,_⟩:=hv.sa
 refine Spec.enter (args:=[_]) (n:=8) Tryz.func36 rfl (by kernel_rfl) rfl (by simp) [.tmp 2,.tmp 3] rfl (fun C _=>?_)
 repeat (first |(refine rg rfl rfl (fun K hK=>?_);(repeat (first |(refine wo rfl (fun k hk=>?_);simp(disch:=omega) only[go_sem,ξ,ζ];apply hk;clear hk k) |refine wkt rfl ?_));(try refine wk0 ?_);apply hK;clear hK K;(try dsimp only[ag,qs,qb])) |((first |refine ae ?_ |refine ac ?_);simp(disch:=decide) only[qs,qb,if_true,if_false,reduceIte]) |refine ah rfl (fun K hK=>?_) |refine ct rfl ?_ |((first |refine hK _ _ ?_ |(clear hK;refine hK _ _ ?_) |(clear hK;clear hK;refine hK _ _ ?_));clear hK;(try clear K)))
 refine fk [.p 0,.o 0,.o 1,.o 2,.o 3,.o 4,.o 5] rfl rfl (fun K hK=>?_);(repeat (first |(refine wo rfl (fun k hk=>?_);simp(disch:=omega) only[go_sem,ξ,ζ];apply hk;clear hk k) |refine wkt rfl ?_));(try refine wk0 ?_)
 refine wkp ?_;simp(disch:=omega) only[go_sem,ξ,ζ];intro b1 h1 st1 hb1;(repeat (first |(refine wo rfl (fun k hk=>?_);simp(disch:=omega) only[go_sem,ξ,ζ];apply hk;clear hk k) |refine wkt rfl ?_));(try refine wk0 ?_)
 have hb1:=hb1 (by simp)
 refine cN rfl rfl rfl rfl (by exact tU (IsEmpty1 (hv0.to (h':=h1)) rfl rfl hb1)) ?_;rintro r3 h3 st3 hr3;obtain⟨_,_,rfl,hr3⟩:=hr3.sa;(repeat (first |(refine wo rfl (fun k hk=>?_);simp(disch:=omega) only[go_sem,ξ,ζ];apply hk;clear hk k) |refine wkt rfl ?_));(try refine wk0 ?_)
 (try (simp(disch:=omega) only[go_sem,ξ,ζ]));apply hK;clear hK;(try clear K);(try dsimp only[ag,qs])
 refine ai ?_;simp(disch:=omega) only[go_sem,ξ,ζ]
 exact hr3
set_option maxHeartbeats 8000000
theorem OwnRat_spec {h0 h:PH} [Le h0 h] {v:Value} {neg:Bool} {n d:Nat} (hv:Rw h0 v neg n d):Spec mach 72 #[v] h (fun v h'=>Rw h' v neg n d) NP:=by
 obtain⟨a,c,xs,a',c',ys,rfl,hx,hy,rfl,rfl,lx,ly⟩:=hv
 have k1:=fun {h} [Le h0 h]=>CloneA (h:=h) hx (by omega)
 have k2:=fun {h} [Le h0 h]=>CloneA (h:=h) hy (by omega)
 refine Spec.go [(1,.o [0,1,2,3,5,6,4,7,8,9])] Tryz.func72 rfl rfl (by kernel_rfl) fun C _=>?_
 try simp(maxSteps:=999999) (disch:=omega) only[go_sem,ξ,ζ]
 refine caN (by exact k1) ?_;rintro v1 h1 s1 ⟨_,_,rfl,q1⟩
 try simp(maxSteps:=999999) (disch:=omega) only[go_sem,ξ,ζ]
 refine caN (by exact k2) ?_;rintro v2 h2 s2 ⟨_,_,rfl,q2⟩
 try simp(maxSteps:=999999) (disch:=omega) only[go_sem,ξ,ζ]
 exact⟨_,_,_,_,_,_,rfl,q1.to,q2,rfl,rfl,lx,ly⟩
theorem Own_spec {h0 h:PH} [Le h0 h] {v:Value} {x:RI} (hv:Iv h0 v x):Spec mach 33 #[v] h (fun v h'=>Iv h' v x) NP:=by
 obtain⟨_,_,_,_,_,_,_,_,_,_,_,_,rfl,h1,h2⟩:=hv.sa
 have k1:=fun {h} [Le h0 h]=>OwnRat_spec (h:=h) h1
 have k2:=fun {h} [Le h0 h]=>OwnRat_spec (h:=h) h2
 refine Spec.go [(1,.o [0,1,3,4,6,7,8,9,2,5,10,11])] Tryz.func33 rfl rfl (by kernel_rfl) fun C _=>?_
 try simp(maxSteps:=999999) (disch:=omega) only[go_sem,ξ,ζ]
 refine caN (by exact k1) ?_;rintro v1 h1 s1 q1;obtain⟨_,_,_,_,_,_,_,rfl,q1⟩:=q1.sa
 try simp(maxSteps:=999999) (disch:=omega) only[go_sem,ξ,ζ]
 refine caN (by exact k2) ?_;rintro v2 h2 s2 q2;obtain⟨_,_,_,_,_,_,_,rfl,q2⟩:=q2.sa
 try simp(maxSteps:=999999) (disch:=omega) only[go_sem,ξ,ζ]
 exact Iv.mk q1.to q2 _ _
abbrev Sd1:=ByteArray×RI
def Sv (h:PH) (v:Value) (s:Sd1):Prop:=∃b1 a1 m1 c1 a2 m2 c2 b2 a3 m3 c3 a4 m4 c4 l u,v=.agg #[.string s.1,.bool b1,.slice a1 m1 c1,.slice a2 m2 c2,.bool b2,.slice a3 m3 c3,.slice a4 m4 c4,.bool l,.bool u]∧Iv h (.agg #[.bool b1,.slice a1 m1 c1,.slice a2 m2 c2,.bool b2,.slice a3 m3 c3,.slice a4 m4 c4,.bool l,.bool u]) s.2
def Boxv (h:PH) (v:Value) (l:List Sd1):Prop:=∃a c,v=.slice a l.length c∧l.length≤2^30∧∀i s,l[i]?=some s→∃ad b1 a1 m1 c1 a2 m2 c2 b2 a3 m3 c3 a4 m4 c4 e u,a=some ad∧
 (∀j v,([.string s.1,.bool b1,.slice a1 m1 c1,.slice a2 m2 c2,.bool b2,.slice a3 m3 c3,.slice a4 m4 c4,.bool e,.bool u]:List Value)[j]?=some v→h.at ((ad.add (i*9)).add j)=some v)∧
 Iv h (.agg #[.bool b1,.slice a1 m1 c1,.slice a2 m2 c2,.bool b2,.slice a3 m3 c3,.slice a4 m4 c4,.bool e,.bool u]) s.2
theorem Boxv.to {h h':PH} {v:Value} {l:List Sd1} (r:Boxv h v l) [t:Le h h']:Boxv h' v l:=by
 obtain⟨a,c,rfl,hl,k⟩:=r
 refine⟨a,c,rfl,hl,fun i s hi=>?_⟩
 obtain⟨ad,b1,a1,m1,c1,a2,m2,c2,b2,a3,m3,c3,a4,m4,c4,e,u,h1,h2,h3⟩:=k i s hi
 exact⟨ad,b1,a1,m1,c1,a2,m2,c2,b2,a3,m3,c3,a4,m4,c4,e,u,h1,fun j v hj=>t.sub.at (h2 j v hj),h3.to⟩
theorem Boxv.sa {h:PH} {v:Value} {l:List Sd1} (r:Boxv h v l):∃a m c,v=.slice a m c:=let ⟨a,c,h1,_⟩:=r;⟨a,_,c,h1⟩
theorem add_1 {a:Addr} {n j:Nat}:({block:=(a.add n).block,off:=(a.add n).off+1}:Addr).add j=(a.add n).add (j+1):=by
 unfold Addr.add
 split<;>split<;>simp_all<;>omega
def fnd (l:List Sd1) (s:ByteArray):Option Nat:=l.findIdx? fun x=>x.1.toList == s.toList
theorem Index1 {h0 h:PH} [Le h0 h] {v:Value} {x:Sd1} {s:ByteArray} {b:Nat} (hv:Sv h0 v x) (hb:h b=some #[.string s]):Spec mach 71 #[v,.pointer (some ⟨b,0,none⟩)] h (fun r _=>r=.bool (x.1.toList == s.toList)) NP:=by
 obtain⟨_,_,_,_,_,_,_,_,_,_,_,_,_,_,_,_,rfl,_⟩:=hv
 refine Spec.go [] Tryz.func71 rfl rfl (by kernel_rfl) fun C _=>?_
 try simp(maxSteps:=999999) (disch:=omega) only[go_sem,ξ,ζ]
 refine aE (aK hb) ?_
 try simp(maxSteps:=999999) (disch:=omega) only[go_sem,ξ,ζ]
theorem IndexFunc_spec {h0 h:PH} [Le h0 h] {v:Value} {l:List Sd1} {s:ByteArray} {b:Nat} (hv:Boxv h0 v l) (hb:h0 b=some #[.string s]):Spec mach 70 #[v,.func (.func 71) #[] #[.pointer (some ⟨b,0,none⟩)]] h (fun r _=>r=.int .i64 (match fnd l s with |some i=>(i:Int) |none=>-1)) NP:=by
 obtain⟨a,c,rfl,hl,k⟩:=hv
 refine Spec.go [] Tryz.func70 rfl rfl (by kernel_rfl) fun C _=>?_
 try simp(maxSteps:=999999) (disch:=omega) only[go_sem,ξ,ζ]
 refine lp [] (fun i:Nat=>⟨[(0,.v (.slice a l.length c)),(1,.v (.func (.func 71) #[] #[.pointer (some ⟨b,0,none⟩)])),(7,.v (.int .i64 l.length)),(8,.v (.int .i64 i))],[]⟩) (fun i h'=>Le h0 h'∧i≤l.length∧∀j x,j < i→l[j]?=some x→(x.1.toList == s.toList)=false) (fun i=>l.length - i) 0 ?_ ⟨inferInstance,qBh _,fun j w hj=>absurd hj (by omega)⟩ (by kernel_rfl) ?_
 ·try simp(maxSteps:=999999) (disch:=omega) only[go_sem,ξ,ζ]
  all_goals rfl
 rintro i h2 ⟨le2,hi,hj⟩
 by_cases hlt:(i:Int) < l.length
 ·obtain⟨x,hx⟩:∃x,l[i]?=some x:=⟨_,List.getElem?_eq_getElem (by omega)⟩
  obtain⟨ad,b1,a1,m1,c1,a2,m2,c2,b2,a3,m3,c3,a4,m4,c4,e,u,rfl,hat,hiv⟩:=k i x hx
  try simp(maxSteps:=999999) (disch:=omega) only[go_sem,ξ,ζ,hlt,decide_true]
  refine Exists.intro [_,_,_,_,_,_,_,_,_] (And.intro rfl (And.intro (fun j v hj=>le2.sub.at (hat j v hj)) ?_))
  try simp(maxSteps:=999999) (disch:=omega) only[go_sem,ξ,ζ]
  refine caN (by exact Index1 (h0:=h2) ⟨_,_,_,_,_,_,_,_,_,_,_,_,_,_,_,_,rfl,hiv.to⟩ (le2.sub _ _ hb)) ?_;rintro v3 h3 s3 rfl
  try simp(maxSteps:=999999) (disch:=omega) only[go_sem,ξ,ζ]
  cases e:(x.1.toList == s.toList) with
  | true=>
   have ef:fnd l s=some i:=by
    unfold fnd
    refine List.findIdx?_eq_some_iff_getElem.2 ⟨by omega,?_,fun j k=>?_⟩
    ·rw[List.getElem?_eq_getElem (by omega)] at hx
     cases hx;exact e
    ·have:=hj j _ k (List.getElem?_eq_getElem (by omega))
     simpa using this
   rw[ef]
   try simp(maxSteps:=999999) (disch:=omega) only[go_sem,ξ,ζ,e]
   all_goals rfl
  | false=>
   try simp(maxSteps:=999999) (disch:=omega) only[go_sem,ξ,ζ,e]
   dsimp only[lpE];refine⟨i+1,?_,⟨inferInstance,by omega,fun j y k hy=>?_⟩,by omega⟩
   ·try simp(maxSteps:=999999) (disch:=omega) only[go_sem,ξ,ζ]
    all_goals rfl
   ·rcases qBj j i with g |g
    ·exact hj j y g hy
    ·obtain rfl:j=i:=by omega
     rw[hx] at hy
     cases hy
     exact e
 ·have ef:fnd l s=none:=by
   unfold fnd
   refine List.findIdx?_eq_none_iff.2 fun x hx=>?_
   obtain⟨j,h⟩:=List.getElem?_of_mem hx
   have:=(List.getElem?_eq_some_iff.1 h).1
   exact hj j x (by omega) h
  rw[ef]
  try simp(maxSteps:=999999) (disch:=omega) only[go_sem,ξ,ζ,hlt,decide_false]
  all_goals rfl
theorem Index_spec {h0 h:PH} [Le h0 h] {v:Value} {l:List Sd1} {s:ByteArray} (hv:Boxv h0 v l):Spec mach 32 #[v,.string s] h (fun r _=>r=.int .i64 (match fnd l s with |some i=>(i:Int) |none=>-1)) NP:=by
 have hv0:=hv
 obtain⟨_,_,_,rfl⟩:=hv.sa
 refine Spec.go [(1,.t (.p 0 (.s [0,1,2,3] .d)))] Tryz.func32 rfl rfl (by kernel_rfl) fun C _=>?_
 try simp(maxSteps:=999999) (disch:=omega) only[go_sem,ξ,ζ]
 intro b h1 st1 hb
 try simp(maxSteps:=999999) (disch:=omega) only[go_sem,ξ,ζ]
 have hb:=hb (by simp)
 refine caN (by exact IndexFunc_spec (h0:=h1) hv0.to hb) ?_;rintro v1 h2 s2 rfl
 try simp(maxSteps:=999999) (disch:=omega) only[go_sem,ξ,ζ]
def Fnd (h:PH) (r:Value) (l:List Sd1) (s:ByteArray):Prop:=match fnd l s with
 |none=>r=.tuple #[zIv,.bool false]
 |some i=>∃v x,l[i]?=some x∧r=.tuple #[v,.bool true]∧Iv h v x.2
theorem BFind_spec {h0 h:PH} [Le h0 h] {v:Value} {l:List Sd1} {s:ByteArray} (hv:Boxv h0 v l):Spec mach 9 #[v,.string s] h (fun r h'=>Fnd h' r l s) NP:=by
 have kI:=fun {h} [Le h0 h]=>Index_spec (h:=h) (s:=s) hv
 unfold Fnd
 obtain⟨a,c,rfl,hl,k⟩:=hv
 cases e:fnd l s with
 | none=>
  rw[e] at kI
  refine Spec.go [] Tryz.func9 rfl rfl (by kernel_rfl) fun C _=>?_
  try simp(maxSteps:=999999) (disch:=omega) only[go_sem,ξ,ζ]
  refine caN (by exact kI) ?_;rintro v1 h1 s1 rfl
  try simp(maxSteps:=999999) (disch:=omega) only[go_sem,ξ,ζ]
  all_goals rfl
 | some i=>
  rw[e] at kI
  have hi:i < l.length:=(List.findIdx?_eq_some_iff_getElem.1 e).1
  obtain⟨x,hx⟩:∃x,l[i]?=some x:=⟨_,List.getElem?_eq_getElem hi⟩
  obtain⟨ad,b1,a1,m1,c1,a2,m2,c2,b2,a3,m3,c3,a4,m4,c4,f,u,rfl,hat,hiv⟩:=k i x hx
  refine Spec.go [] Tryz.func9 rfl rfl (by kernel_rfl) fun C _=>?_
  try simp(maxSteps:=999999) (disch:=omega) only[go_sem,ξ,ζ]
  refine caN (by exact kI) ?_;rintro v1 h1 s1 rfl
  try simp(maxSteps:=999999) (disch:=omega) only[go_sem,ξ,ζ]
  refine Exists.intro [_,_,_,_,_,_,_,_] (And.intro rfl (And.intro (fun j v hj=>by rw[add_1];exact s1.sub.at ((inferInstance:Le h0 h).sub.at (hat (j+1) v hj))) ?_))
  try simp(maxSteps:=999999) (disch:=omega) only[go_sem,ξ,ζ]
  refine caN (by exact Own_spec (hiv.to (h':=h1))) ?_;rintro v2 h2 s2 q2;obtain⟨_,_,_,_,_,_,_,_,_,_,_,_,rfl,q3⟩:=q2.sa
  try simp(maxSteps:=999999) (disch:=omega) only[go_sem,ξ,ζ]
  exact⟨_,_,hx,rfl,q2⟩
open Go.Proofs Go.Proofs.YtpipfclemmbmcaaGreatDoor
open Go.ChangeShapes Go.WideShapes Go.ChangeAt Go.RowKit
theorem flSi:flds Tryz.prog 59=some [(9,0),(27,1)]:=by kernel_rfl
theorem unSi:Tryz.prog.underlying 22=some (.slice 59):=by kernel_rfl
theorem unSt:Tryz.prog.underlying 9=some .string:=by kernel_rfl
theorem ceSt:Tryz.prog.cellsOf 9=1:=by kernel_rfl
theorem ceSi:Tryz.prog.cellsOf 59=9:=by kernel_rfl
section
variable {H:Type} {enc:TypeId×Value→H} {W:World} {sp:Nat→Bool} {held:Bool}
theorem open_side {fuel:Nat} {cs:List Value} {x:DataW H×List MemPlace} (h:DataW.trod enc Tryz.prog W 0 sp held fuel 59 cs=some x) {B:Nat} (hB:B≤1048576) (hk:Rows.uptoBulk x.1≤B):
  ∃ (s:ByteArray) (y:RI) (a1:Option Addr) (m1 c1:Nat) (a2:Option Addr) (m2 c2:Nat) (a3:Option Addr) (m3 c3:Nat) (a4:Option Addr) (m4 c4:Nat),cs=[.string s,.bool y.n1,.slice a1 m1 c1,.slice a2 m2 c2,.bool y.n2,.slice a3 m3 c3,.slice a4 m4 c4,.bool y.l,.bool y.u]∧
   Iv (pub W) (.agg #[.bool y.n1,.slice a1 m1 c1,.slice a2 m2 c2,.bool y.n2,.slice a3 m3 c3,.slice a4 m4 c4,.bool y.l,.bool y.u]) y:=by
 obtain⟨fs,hu,hf⟩:=flds_some flSi
 obtain⟨xs,n,rfl,rfl,hl,hsz,hg⟩:=DataW.trod_struct hu h
 rw[ceSi] at hl
 have hfs:fs.size=2:=by
  have:=congrArg List.length hf
  simpa using this
 match cs,hl with
 |[c0,c1,c2,c3,c4,c5,c6,c7,c8],_=>
 have get:∀(i t o:Nat),(fs.toList.map fun f=>(f.type,f.offset))[i]?=some (t,o)→∃f:Field,fs[i]?=some f∧f.type=t∧f.offset=o:=by
  intro i t o hi
  rw[List.getElem?_map,Option.map_eq_some_iff] at hi
  obtain⟨f,h1,h2⟩:=hi
  cases h2
  exact⟨f,by simpa using h1,rfl,rfl⟩
 obtain⟨f0,k0,e0,o0⟩:=get 0 9 0 (by rw[hf];rfl)
 obtain⟨f1,k1,e1,o1⟩:=get 1 27 1 (by rw[hf];rfl)
 have g0:=hg 0 f0 k0
 have g1:=hg 1 f1 k1
 rw[e0,o0,ceSt] at g0
 rw[e1,o1,ce26] at g1
 rw[hfs] at hsz
 match xs,hsz with
 |[y0,y1],_=>
 simp only[List.drop_zero,List.take_succ_cons,List.take_zero,List.drop_succ_cons,List.getElem?_cons_zero,List.getElem?_cons_succ] at g0 g1
 simp only[Rows.uptoBulk,List.map_cons,List.map_nil,Rows.uptoBulkAll] at hk
 obtain⟨s,e0,_⟩:=DataW.trod_string unSt g0
 obtain⟨y,hy⟩:=open_iv g1 hB (by omega)
 obtain⟨a1,m1,c1',a2,m2,c2',a3,m3,c3',a4,m4,c4',e2,_,_⟩:=hy.sa
 cases e0
 simp only[Value.agg.injEq,Array.mk.injEq,List.cons.injEq,and_true] at e2
 obtain⟨rfl,rfl,rfl,rfl,rfl,rfl,rfl,rfl⟩:=e2
 exact⟨s,y,a1,m1,c1',a2,m2,c2',a3,m3,c3',a4,m4,c4',rfl,hy⟩
theorem list_of {α:Type} (P:Nat→α→Prop):∀n,(∀i,i < n→∃s,P i s)→∃l:List α,l.length=n∧∀i s,l[i]?=some s→P i s:=by
 intro n
 induction n with
 |zero=>exact fun _=>⟨[],rfl,fun i s h=>by simp at h⟩
 | succ n ih=>
  intro h
  obtain⟨l,hl,k⟩:=ih fun i hi=>h i (by omega)
  obtain⟨s,hs⟩:=h n (by omega)
  refine⟨l ++[s],by simp[hl],fun i t hi=>?_⟩
  rcases qBj i l.length with g |g
  ·rw[List.getElem?_append_left g] at hi;exact k i t hi
  ·have:i < (l ++[s]).length:=(List.getElem?_eq_some_iff.1 hi).1
   simp only[qAp,List.length_singleton] at this
   obtain rfl:i=l.length:=by omega
   rw[List.getElem?_append_right (η _),Nat.sub_self] at hi
   cases hi;rw[hl];exact hs
theorem open_box {fuel:Nat} {v:Value} {x:DataW H×List MemPlace} (h:DataW.trod enc Tryz.prog W 0 sp held fuel 22 [v]=some x) {B:Nat} (hB:B≤1048576) (hk:Rows.uptoBulk x.1≤B):
  ∃l:List Sd1,Boxv (pub W) v l:=by
 rcases DataW.trod_slice unSi h with⟨e,_⟩ |⟨a,len,cap,elems,rest,n,_,e,rfl,_,hl,hm,hlen,hel,_,_⟩
 ·cases e
  exact⟨[],none,0,rfl,by simp,fun i s h=>by simp at h⟩
 cases e
 simp only[Rows.uptoBulk] at hk
 have b1:=bulk_len (H:=H) (elems.map (·.1))
 rw[List.length_map,hlen] at b1
 obtain⟨l,hll,hP⟩:=list_of (fun i (s:Sd1)=>∃(a1:Option Addr) (m1 c1:Nat) (a2:Option Addr) (m2 c2:Nat) (a3:Option Addr) (m3 c3:Nat) (a4:Option Addr) (m4 c4:Nat),
   (∀j v,([.string s.1,.bool s.2.n1,.slice a1 m1 c1,.slice a2 m2 c2,.bool s.2.n2,.slice a3 m3 c3,.slice a4 m4 c4,.bool s.2.l,.bool s.2.u]:List Value)[j]?=some v→(pub W).at ((a.add (i*9)).add j)=some v)∧
   Iv (pub W) (.agg #[.bool s.2.n1,.slice a1 m1 c1,.slice a2 m2 c2,.bool s.2.n2,.slice a3 m3 c3,.slice a4 m4 c4,.bool s.2.l,.bool s.2.u]) s.2) len fun i hi=>by
  have he:=hel i hi
  obtain⟨y,hy⟩:∃y,elems[i]?=some y:=⟨_,List.getElem?_eq_getElem (by omega)⟩
  rw[hy,Option.bind_eq_some_iff,ceSi] at he
  obtain⟨cs,hc,ht⟩:=he
  have hb:=bulk_mem (d:=y.1) (l:=elems.map (·.1)) (List.mem_map.2 ⟨y,List.mem_of_getElem? hy,rfl⟩)
  obtain⟨s,z,a1,m1,c1,a2,m2,c2,a3,m3,c3,a4,m4,c4,rfl,hz⟩:=open_side ht hB (by omega)
  have hc':=World.cells?_some hc
  refine⟨(s,z),a1,m1,c1,a2,m2,c2,a3,m3,c3,a4,m4,c4,fun j v hj=>?_,hz⟩
  have:j < 9:=(List.getElem?_eq_some_iff.1 hj).1
  rw[pub_at,hc'.2.2 j this]
  exact hj
 refine⟨l,some a,cap,by rw[hll],by omega,fun i s hi=>?_⟩
 obtain⟨a1,m1,c1,a2,m2,c2,a3,m3,c3,a4,m4,c4,q1,q2⟩:=hP i s hi
 exact⟨a,_,a1,m1,c1,a2,m2,c2,_,a3,m3,c3,a4,m4,c4,_,_,rfl,q1,q2⟩
end
namespace NS
def lo0:NS→Rat
 |.e=>0
 |.i a _=>a.getD 0
def hi0:NS→Rat
 |.e=>0
 |.i _ b=>b.getD 0
def loN:NS→Bool
 |.e=>false
 |.i a _=>a.isNone
def hiN:NS→Bool
 |.e=>false
 |.i _ b=>b.isNone
end NS
def Rr (h:PH) (v:Value) (x:NS):Prop:=∃b1 x1 y1 b2 x2 y2,v=.agg #[.bool b1,x1,y1,.bool b2,x2,y2,.bool x.loN,.bool x.hiN,.bool x.void]∧Qr h (.agg #[.bool b1,x1,y1]) x.lo0∧Qr h (.agg #[.bool b2,x2,y2]) x.hi0
theorem Rr.to {h h':PH} {v:Value} {x:NS} (r:Rr h v x) [Le h h']:Rr h' v x:=let ⟨a,b,c,d,e,f,h1,h2,h3⟩:=r;⟨a,b,c,d,e,f,h1,h2.to,h3.to⟩
theorem Rr.sa {h:PH} {v:Value} {x:NS} (r:Rr h v x):∃b1 a1 m1 c1 a2 m2 c2 b2 a3 m3 c3 a4 m4 c4,v=.agg #[.bool b1,.slice a1 m1 c1,.slice a2 m2 c2,.bool b2,.slice a3 m3 c3,.slice a4 m4 c4,.bool x.loN,.bool x.hiN,.bool x.void]∧
  Qr h (.agg #[.bool b1,.slice a1 m1 c1,.slice a2 m2 c2]) x.lo0∧Qr h (.agg #[.bool b2,.slice a3 m3 c3,.slice a4 m4 c4]) x.hi0:=by
 obtain⟨b1,x1,y1,b2,x2,y2,rfl,h1,h2⟩:=r
 obtain⟨_,_,_,_,_,_,_,e1,_⟩:=h1.sa
 obtain⟨_,_,_,_,_,_,_,e2,_⟩:=h2.sa
 simp only[Value.agg.injEq,Array.mk.injEq,List.cons.injEq,and_true] at e1 e2
 obtain⟨_,rfl,rfl⟩:=e1
 obtain⟨_,rfl,rfl⟩:=e2
 exact⟨_,_,_,_,_,_,_,_,_,_,_,_,_,_,rfl,h1,h2⟩
theorem HY:sz 0≤1:=by decide
theorem i6 {h:PH}:Spec mach 80 #[] h (fun v h'=>Rr h' v .e) NP:=by
 refine Spec.go [] Tryz.func80 rfl rfl (by kernel_rfl) fun C _=>?_
 try simp(maxSteps:=999999) (disch:=omega) only[go_sem,ξ,ζ]
 exact⟨_,_,_,_,_,_,rfl,Qr.none _,Qr.none _⟩
theorem RefOf {h0 h:PH} [Le h0 h] {v:Value} {x:RI} (hv:Iv h0 v x) (g:x.big=false):Spec mach 39 #[v] h (fun v h'=>Rr h' v x.set) NP:=by
 obtain⟨a1,m1,c1,a2,m2,c2,a3,m3,c3,a4,m4,c4,rfl,hx,hy⟩:=hv.sa
 obtain⟨g1,g2⟩:=RI.small g
 have z1:sz (qof x.n1 x.a1 x.d1)≤2^30:=by unfold Go.Q.lg at g1;omega
 have z2:sz (qof x.n2 x.a2 x.d2)≤2^30:=by unfold Go.Q.lg at g2;omega
 obtain⟨n1,a1',d1,n2,a2',d2,l,u⟩:=x
 dsimp only at*
 unfold RI.set RI.lo RI.hi NS.mk'
 dsimp only
 obtain⟨q1,hq1⟩:∃q,qof n1 a1' d1=q:=⟨_,rfl⟩
 obtain⟨q2,hq2⟩:∃q,qof n2 a2' d2=q:=⟨_,rfl⟩
 have k1:=fun {h} [Le h0 h]=>bM (h:=h) hx
 have k2:=fun {h} [Le h0 h]=>bM (h:=h) hy
 rw[hq1] at z1 k1 ⊢
 rw[hq2] at z2 k2 ⊢
 cases l with
 | true=>
  cases u with
  | true=>
   refine Spec.go [] Tryz.func39 rfl rfl (by kernel_rfl) fun C _=>?_
   try simp(maxSteps:=999999) (disch:=omega) only[go_sem,ξ,ζ]
   exact⟨_,_,_,_,_,_,rfl,Qr.none _,Qr.none _⟩
  | false=>
   refine Spec.go [] Tryz.func39 rfl rfl (by kernel_rfl) fun C _=>?_
   try simp(maxSteps:=999999) (disch:=omega) only[go_sem,ξ,ζ]
   refine caN (by exact k2) ?_;rintro _ h1 _ f1;obtain⟨_,_,_,_,_,_,_,rfl,f1⟩:=f1.sa
   try simp(maxSteps:=999999) (disch:=omega) only[go_sem,ξ,ζ]
   exact⟨_,_,_,_,_,_,rfl,Qr.none _,f1.to⟩
 | false=>
  cases u with
  | true=>
   refine Spec.go [] Tryz.func39 rfl rfl (by kernel_rfl) fun C _=>?_
   try simp(maxSteps:=999999) (disch:=omega) only[go_sem,ξ,ζ]
   refine caN (by exact k1) ?_;rintro _ h1 _ f1;obtain⟨_,_,_,_,_,_,_,rfl,f1⟩:=f1.sa
   try simp(maxSteps:=999999) (disch:=omega) only[go_sem,ξ,ζ]
   exact⟨_,_,_,_,_,_,rfl,f1.to,Qr.none _⟩
  | false=>
   by_cases hlt:q2 < q1
   ·have e1:0 < cmpQ q1 q2:=by unfold cmpQ;grind
    simp only[ordO,hlt,decide_true,Bool.not_true,cond_false]
    refine Spec.go [] Tryz.func39 rfl rfl (by kernel_rfl) fun C _=>?_
    try simp(maxSteps:=999999) (disch:=omega) only[go_sem,ξ,ζ]
    refine caN (by exact k1) ?_;rintro _ h1 _ f1;obtain⟨_,_,_,_,_,_,_,rfl,f1⟩:=f1.sa
    try simp(maxSteps:=999999) (disch:=omega) only[go_sem,ξ,ζ]
    refine caN (by exact k2) ?_;rintro _ h2 _ f2;obtain⟨_,_,_,_,_,_,_,rfl,f2⟩:=f2.sa
    try simp(maxSteps:=999999) (disch:=omega) only[go_sem,ξ,ζ]
    refine caN (by exact av (f1.to (h':=h2)) f2 (by omega) (by omega)) ?_;rintro v3 h3 s3 rfl
    try simp(maxSteps:=999999) (disch:=omega) only[go_sem,ξ,ζ]
    refine caN (by exact i6) ?_;rintro v4 h4 s4 hv4;obtain⟨_,_,_,_,_,_,_,_,_,_,_,_,_,_,rfl,t1,t2⟩:=hv4.sa
    try simp(maxSteps:=999999) (disch:=omega) only[go_sem,ξ,ζ]
    exact⟨_,_,_,_,_,_,rfl,t1.to,t2.to⟩
   ·have e1:¬0 < cmpQ q1 q2:=by unfold cmpQ;grind
    simp only[ordO,hlt,decide_false,Bool.not_false,cond_true]
    refine Spec.go [] Tryz.func39 rfl rfl (by kernel_rfl) fun C _=>?_
    try simp(maxSteps:=999999) (disch:=omega) only[go_sem,ξ,ζ]
    refine caN (by exact k1) ?_;rintro _ h1 _ f1;obtain⟨_,_,_,_,_,_,_,rfl,f1⟩:=f1.sa
    try simp(maxSteps:=999999) (disch:=omega) only[go_sem,ξ,ζ]
    refine caN (by exact k2) ?_;rintro _ h2 _ f2;obtain⟨_,_,_,_,_,_,_,rfl,f2⟩:=f2.sa
    try simp(maxSteps:=999999) (disch:=omega) only[go_sem,ξ,ζ]
    refine caN (by exact av (f1.to (h':=h2)) f2 (by omega) (by omega)) ?_;rintro v3 h3 s3 rfl
    try simp(maxSteps:=999999) (disch:=omega) only[go_sem,ξ,ζ]
    exact⟨_,_,_,_,_,_,rfl,f1.to,f2.to⟩
theorem eZ {h0 h:PH} [Le h0 h] {v:Value} {x:RI} (hv:Iv h0 v x):Spec mach 38 #[v] h (fun r _=>r=.bool x.big) NP:=by
 obtain⟨a1,m1,c1,a2,m2,c2,a3,m3,c3,a4,m4,c4,rfl,hx,hy⟩:=hv.sa
 have k1:=fun {h} [Le h0 h]=>jJ (h:=h) hx
 have k2:=fun {h} [Le h0 h]=>jJ (h:=h) hy
 unfold RI.big
 obtain⟨l1,e1⟩:∃b,decide (lg x.n1 x.a1 x.d1)=b:=⟨_,rfl⟩
 obtain⟨l2,e2⟩:∃b,decide (lg x.n2 x.a2 x.d2)=b:=⟨_,rfl⟩
 rw[e1] at k1 ⊢
 rw[e2] at k2 ⊢
 cases l1 with
 | true=>
  refine Spec.go [] Tryz.func38 rfl rfl (by kernel_rfl) fun C _=>?_
  try simp(maxSteps:=999999) (disch:=omega) only[go_sem,ξ,ζ]
  refine caN (by exact k1) ?_;rintro v1 h1 s1 rfl
  try simp(maxSteps:=999999) (disch:=omega) only[go_sem,ξ,ζ]
  all_goals rfl
 | false=>
  refine Spec.go [] Tryz.func38 rfl rfl (by kernel_rfl) fun C _=>?_
  try simp(maxSteps:=999999) (disch:=omega) only[go_sem,ξ,ζ]
  refine caN (by exact k1) ?_;rintro v1 h1 s1 rfl
  try simp(maxSteps:=999999) (disch:=omega) only[go_sem,ξ,ζ]
  refine caN (by exact k2) ?_;rintro v2 h2 s2 rfl
  try simp(maxSteps:=999999) (disch:=omega) only[go_sem,ξ,ζ]
def okS (l:List Sd1) (i:Nat):Bool:=match l[i]? with
 | some x=>nameB x.1 && (decide (i=0) || (match l[i - 1]? with
  |some y=>Op.bytesLess y.1.toList x.1.toList
  |none=>true)) && !x.2.big && !x.2.set.void
 |none=>true
def okB (l:List Sd1):Bool:=decide (l.length≤6) && (List.range l.length).all (okS l)
theorem okB_no {l:List Sd1} {i:Nat} (hi:i < l.length) (h:okS l i=false):okB l=false:=by
 unfold okB
 rw[Bool.and_eq_false_iff]
 right
 exact List.all_eq_false.2 ⟨i,List.mem_range.2 hi,by rw[h];decide⟩
theorem okB_yes {l:List Sd1} (hl:l.length≤6) (h:∀j,j < l.length→okS l j=true):okB l=true:=by
 unfold okB
 rw[decide_eq_true hl,Bool.true_and]
 exact qBd.2 fun j hj=>h j (List.mem_range.1 hj)
theorem BValid_spec {h0 h:PH} [Le h0 h] {v:Value} {l:List Sd1} (hv:Boxv h0 v l):Spec mach 12 #[v] h (fun r _=>r=.bool (okB l)) NP:=by
  obtain⟨a,c,rfl,hl,k⟩:=hv
  by_cases h6:(l.length:Int) > 6
  · have:okB l=false:=by unfold okB;rw[decide_eq_false (by omega)];rfl
    rw[this]
    refine Spec.go [] Tryz.func12 rfl rfl (by kernel_rfl) fun C _=>?_
    try simp(maxSteps:=999999) (disch:=omega) only[go_sem,ξ,ζ,h6,decide_true]
  · refine Spec.go [] Tryz.func12 rfl rfl (by kernel_rfl) fun C _=>?_
    try simp(maxSteps:=999999) (disch:=omega) only[go_sem,ξ,ζ,h6,decide_false]
    refine lp [] (fun i:Nat=>⟨[(0,.v (.slice a l.length c)),(10,.v (.slice a l.length c)),(11,.v (.int .i64 l.length)),(12,.v (.int .i64 i))],[]⟩) (fun i h'=>Le h0 h'∧i≤l.length∧∀j,j < i→okS l j=true) (fun i=>l.length - i) 0 ?_ ⟨inferInstance,qBh _,fun j hj=>absurd hj (by omega)⟩ (by kernel_rfl) ?_
    · try simp(maxSteps:=999999) (disch:=omega) only[go_sem,ξ,ζ]
      all_goals rfl
    rintro i h2 ⟨le2,hi,hj⟩
    by_cases hlt:(i:Int) < l.length
    · obtain⟨x,hx⟩:∃x,l[i]?=some x:=⟨_,List.getElem?_eq_getElem (by omega)⟩
      obtain⟨ad,b1,a1,m1,c1,a2,m2,c2,b2,a3,m3,c3,a4,m4,c4,e,u,rfl,hat,hiv⟩:=k i x hx
      try simp(maxSteps:=999999) (disch:=omega) only[go_sem,ξ,ζ,hlt,decide_true]
      refine Exists.intro [_,_,_,_,_,_,_,_,_] (And.intro rfl (And.intro (fun j v hj=>le2.sub.at (hat j v hj)) ?_))
      try simp(maxSteps:=999999) (disch:=omega) only[go_sem,ξ,ζ]
      refine caN (by exact IsName_spec) ?_;rintro v3 h3 s3 rfl
      try simp(maxSteps:=999999) (disch:=omega) only[go_sem,ξ,ζ]
      have big:x.2.big=true→okS l i=false:=fun g=>by unfold okS;rw[hx];simp[g]
      have voi:x.2.set.void=true→okS l i=false:=fun g=>by unfold okS;rw[hx];simp[g]
      have nam:nameB x.1=false→okS l i=false:=fun g=>by unfold okS;rw[hx];simp[g]
      have hi':i < l.length:=by omega
      cases hn:nameB x.1 with
      | false=>
        rw[okB_no hi' (nam hn)]
        try simp(maxSteps:=999999) (disch:=omega) only[go_sem,ξ,ζ,hn]
      | true=>
        have kE:=fun {h} [Le h2 h]=>sI (h:=h) (hiv.to (h':=h2))
        unfold RI.bo at kE
        have nxt:(decide (i=0) || (match l[i - 1]? with |some y=>Op.bytesLess y.1.toList x.1.toList |none=>true))=true→x.2.big=false→x.2.set.void=false→okS l i=true:=fun g1 g2 g3=>by
          unfold okS;rw[hx]
          show(nameB x.1 && _ && _ && _)=true
          rw[hn,g1,g2,g3];rfl
        by_cases i0:(i:Int) > 0
        · obtain⟨y,hy⟩:∃y,l[i - 1]?=some y:=⟨_,List.getElem?_eq_getElem (by omega)⟩
          obtain⟨ad',_,_,_,_,_,_,_,_,_,_,_,_,_,_,_,_,ea,hat',_⟩:=k (i - 1) y hy
          cases ea
          have hyat:h0.at (ad.add ((i - 1)*9))=some (.string y.1):=hat' 0 _ rfl
          have ew:((i:Int) - 1).toNat=i - 1:=by omega
          try simp(maxSteps:=999999) (disch:=omega) only[go_sem,ξ,ζ,hn,i0,decide_true,ew]
          refine aE ((inferInstance:Le h0 h3).sub.at hyat) ?_
          try simp(maxSteps:=999999) (disch:=omega) only[go_sem,ξ,ζ]
          cases hB:Op.bytesLess y.1.toList x.1.toList with
          | false=>
            rw[okB_no hi' (by unfold okS;rw[hx];simp only[hy,hB];rw[decide_eq_false (by omega)];simp)]
            try simp(maxSteps:=999999) (disch:=omega) only[go_sem,ξ,ζ,hB]
          | true=>
            try simp(maxSteps:=999999) (disch:=omega) only[go_sem,ξ,ζ,hB]
            cases gb:x.2.big with
            | true=>
              rw[gb,cond_true] at kE
              rw[okB_no hi' (big gb)]
              refine caN (by exact kE) ?_;rintro v4 h4 s4 q4;obtain rfl:v4=_:=q4
              try simp(maxSteps:=999999) (disch:=omega) only[go_sem,ξ,ζ]
            | false =>
              rw[gb,cond_false] at kE
              cases gv:x.2.set.void with
              | true=>
                rw[gv] at kE
                rw[okB_no hi' (voi gv)]
                refine caN (by exact kE) ?_;rintro v4 h4 s4 q4;obtain rfl:v4=_:=q4
                try simp(maxSteps:=999999) (disch:=omega) only[go_sem,ξ,ζ]
              | false=>
                rw[gv] at kE
                refine caN (by exact kE) ?_;rintro v4 h4 s4 q4;obtain rfl:v4=_:=q4
                try simp(maxSteps:=999999) (disch:=omega) only[go_sem,ξ,ζ]
                dsimp only[lpE];refine⟨i+1,?_,⟨inferInstance,by omega,fun j k=>?_⟩,by omega⟩
                · try simp(maxSteps:=999999) (disch:=omega) only[go_sem,ξ,ζ]
                  all_goals rfl
                · rcases qBj j i with g |g
                  · exact hj j g
                  · obtain rfl:j=i:=by omega
                    exact nxt (by rw[hy];simp[hB]) gb gv
        · try simp(maxSteps:=999999) (disch:=omega) only[go_sem,ξ,ζ,hn,i0,decide_false]
          cases gb:x.2.big with
          | true=>
            rw[gb,cond_true] at kE
            rw[okB_no hi' (big gb)]
            refine caN (by exact kE) ?_;rintro v4 h4 s4 q4;obtain rfl:v4=_:=q4
            try simp(maxSteps:=999999) (disch:=omega) only[go_sem,ξ,ζ]
          | false =>
            rw[gb,cond_false] at kE
            cases gv:x.2.set.void with
            | true=>
              rw[gv] at kE
              rw[okB_no hi' (voi gv)]
              refine caN (by exact kE) ?_;rintro v4 h4 s4 q4;obtain rfl:v4=_:=q4
              try simp(maxSteps:=999999) (disch:=omega) only[go_sem,ξ,ζ]
            | false=>
              rw[gv] at kE
              refine caN (by exact kE) ?_;rintro v4 h4 s4 q4;obtain rfl:v4=_:=q4
              try simp(maxSteps:=999999) (disch:=omega) only[go_sem,ξ,ζ]
              dsimp only[lpE];refine⟨i+1,?_,⟨inferInstance,by omega,fun j k=>?_⟩,by omega⟩
              · try simp(maxSteps:=999999) (disch:=omega) only[go_sem,ξ,ζ]
                all_goals rfl
              · rcases qBj j i with g |g
                · exact hj j g
                · obtain rfl:j=i:=by omega
                  exact nxt (by rw[decide_eq_true (by omega)];rfl) gb gv
    · rw[okB_yes (by omega) (fun j k=>hj j (by omega))]
      try simp(maxSteps:=999999) (disch:=omega) only[go_sem,ξ,ζ,hlt,decide_false]
theorem RBValid_spec {h0 h:PH} [Le h0 h] {v:Value} {l:List Sd1} (hv:Boxv h0 v l):Spec mach 13 #[v] h (fun r _=>r=.bool (okB l)) NP:=by
  obtain⟨a,c,rfl,hl,k⟩:=hv
  by_cases h6:(l.length:Int) > 6
  · have:okB l=false:=by unfold okB;rw[decide_eq_false (by omega)];rfl
    rw[this]
    refine Spec.go [] Tryz.func13 rfl rfl (by kernel_rfl) fun C _=>?_
    try simp(maxSteps:=999999) (disch:=omega) only[go_sem,ξ,ζ,h6,decide_true]
  · refine Spec.go [] Tryz.func13 rfl rfl (by kernel_rfl) fun C _=>?_
    try simp(maxSteps:=999999) (disch:=omega) only[go_sem,ξ,ζ,h6,decide_false]
    refine lp [] (fun i:Nat=>⟨[(0,.v (.slice a l.length c)),(8,.v (.slice a l.length c)),(9,.v (.int .i64 l.length)),(10,.v (.int .i64 i))],[]⟩) (fun i h'=>Le h0 h'∧i≤l.length∧∀j,j < i→okS l j=true) (fun i=>l.length - i) 0 ?_ ⟨inferInstance,qBh _,fun j hj=>absurd hj (by omega)⟩ (by kernel_rfl) ?_
    · try simp(maxSteps:=999999) (disch:=omega) only[go_sem,ξ,ζ]
      all_goals rfl
    rintro i h2 ⟨le2,hi,hj⟩
    by_cases hlt:(i:Int) < l.length
    · obtain⟨x,hx⟩:∃x,l[i]?=some x:=⟨_,List.getElem?_eq_getElem (by omega)⟩
      obtain⟨ad,b1,a1,m1,c1,a2,m2,c2,b2,a3,m3,c3,a4,m4,c4,e,u,rfl,hat,hiv⟩:=k i x hx
      try simp(maxSteps:=999999) (disch:=omega) only[go_sem,ξ,ζ,hlt,decide_true]
      refine Exists.intro [_,_,_,_,_,_,_,_,_] (And.intro rfl (And.intro (fun j v hj=>le2.sub.at (hat j v hj)) ?_))
      try simp(maxSteps:=999999) (disch:=omega) only[go_sem,ξ,ζ]
      refine caN (by exact RIsName_spec) ?_;rintro v3 h3 s3 rfl
      try simp(maxSteps:=999999) (disch:=omega) only[go_sem,ξ,ζ]
      have big:x.2.big=true→okS l i=false:=fun g=>by unfold okS;rw[hx];simp[g]
      have voi:x.2.set.void=true→okS l i=false:=fun g=>by unfold okS;rw[hx];simp[g]
      have nam:nameB x.1=false→okS l i=false:=fun g=>by unfold okS;rw[hx];simp[g]
      have hi':i < l.length:=by omega
      cases hn:nameB x.1 with
      | false=>
        rw[okB_no hi' (nam hn)]
        try simp(maxSteps:=999999) (disch:=omega) only[go_sem,ξ,ζ,hn]
      | true=>
        have kL:=fun {h} [Le h2 h]=>eZ (h:=h) (hiv.to (h':=h2))
        have nxt:(decide (i=0) || (match l[i - 1]? with |some y=>Op.bytesLess y.1.toList x.1.toList |none=>true))=true→x.2.big=false→x.2.set.void=false→okS l i=true:=fun g1 g2 g3=>by
          unfold okS;rw[hx]
          show(nameB x.1 && _ && _ && _)=true
          rw[hn,g1,g2,g3];rfl
        by_cases i0:(i:Int) > 0
        · obtain⟨y,hy⟩:∃y,l[i - 1]?=some y:=⟨_,List.getElem?_eq_getElem (by omega)⟩
          obtain⟨ad',_,_,_,_,_,_,_,_,_,_,_,_,_,_,_,_,ea,hat',_⟩:=k (i - 1) y hy
          cases ea
          have hyat:h0.at (ad.add ((i - 1)*9))=some (.string y.1):=hat' 0 _ rfl
          have ew:((i:Int) - 1).toNat=i - 1:=by omega
          try simp(maxSteps:=999999) (disch:=omega) only[go_sem,ξ,ζ,hn,i0,decide_true,ew]
          refine aE ((inferInstance:Le h0 h3).sub.at hyat) ?_
          try simp(maxSteps:=999999) (disch:=omega) only[go_sem,ξ,ζ]
          cases hB:Op.bytesLess y.1.toList x.1.toList with
          | false=>
            rw[okB_no hi' (by unfold okS;rw[hx];simp only[hy,hB];rw[decide_eq_false (by omega)];simp)]
            try simp(maxSteps:=999999) (disch:=omega) only[go_sem,ξ,ζ,hB]
          | true=>
            try simp(maxSteps:=999999) (disch:=omega) only[go_sem,ξ,ζ,hB]
            refine caN (by exact kL) ?_;rintro v4 h4 s4 rfl
            try simp(maxSteps:=999999) (disch:=omega) only[go_sem,ξ,ζ]
            cases gb:x.2.big with
            | true=>
              rw[okB_no hi' (big gb)]
              try simp(maxSteps:=999999) (disch:=omega) only[go_sem,ξ,ζ,gb]
            | false =>
              try simp(maxSteps:=999999) (disch:=omega) only[go_sem,ξ,ζ,gb]
              refine caN (by exact RefOf (hiv.to (h':=h4)) gb) ?_;rintro v5 h5 s5 q5;obtain⟨_,_,_,_,_,_,_,_,_,_,_,_,_,_,rfl,_⟩:=q5.sa
              try simp(maxSteps:=999999) (disch:=omega) only[go_sem,ξ,ζ]
              cases gv:x.2.set.void with
              | true=>
                rw[okB_no hi' (voi gv)]
                try simp(maxSteps:=999999) (disch:=omega) only[go_sem,ξ,ζ,gv]
              | false=>
                try simp(maxSteps:=999999) (disch:=omega) only[go_sem,ξ,ζ,gv]
                dsimp only[lpE];refine⟨i+1,?_,⟨inferInstance,by omega,fun j k=>?_⟩,by omega⟩
                · try simp(maxSteps:=999999) (disch:=omega) only[go_sem,ξ,ζ]
                  all_goals rfl
                · rcases qBj j i with g |g
                  · exact hj j g
                  · obtain rfl:j=i:=by omega
                    exact nxt (by rw[hy];simp[hB]) gb gv
        · try simp(maxSteps:=999999) (disch:=omega) only[go_sem,ξ,ζ,hn,i0,decide_false]
          refine caN (by exact kL) ?_;rintro v4 h4 s4 rfl
          try simp(maxSteps:=999999) (disch:=omega) only[go_sem,ξ,ζ]
          cases gb:x.2.big with
          | true=>
            rw[okB_no hi' (big gb)]
            try simp(maxSteps:=999999) (disch:=omega) only[go_sem,ξ,ζ,gb]
          | false =>
            try simp(maxSteps:=999999) (disch:=omega) only[go_sem,ξ,ζ,gb]
            refine caN (by exact RefOf (hiv.to (h':=h4)) gb) ?_;rintro v5 h5 s5 q5;obtain⟨_,_,_,_,_,_,_,_,_,_,_,_,_,_,rfl,_⟩:=q5.sa
            try simp(maxSteps:=999999) (disch:=omega) only[go_sem,ξ,ζ]
            cases gv:x.2.set.void with
            | true=>
              rw[okB_no hi' (voi gv)]
              try simp(maxSteps:=999999) (disch:=omega) only[go_sem,ξ,ζ,gv]
            | false=>
              try simp(maxSteps:=999999) (disch:=omega) only[go_sem,ξ,ζ,gv]
              dsimp only[lpE];refine⟨i+1,?_,⟨inferInstance,by omega,fun j k=>?_⟩,by omega⟩
              · try simp(maxSteps:=999999) (disch:=omega) only[go_sem,ξ,ζ]
                all_goals rfl
              · rcases qBj j i with g |g
                · exact hj j g
                · obtain rfl:j=i:=by omega
                  exact nxt (by rw[decide_eq_true (by omega)];rfl) gb gv
    · rw[okB_yes (by omega) (fun j k=>hj j (by omega))]
      try simp(maxSteps:=999999) (disch:=omega) only[go_sem,ξ,ζ,hlt,decide_false]
def Rv (h:PH) (v:Value) (q:Rat):Prop:=∃neg n d,Rw h v neg n d∧¬lg neg n d∧qof neg n d=q
theorem Rv.to {h h':PH} {v:Value} {q:Rat} (r:Rv h v q) [Le h h']:Rv h' v q:=let ⟨a,b,c,h1,h2⟩:=r;⟨a,b,c,h1.to,h2⟩
theorem Rv.of {h:PH} {v:Value} {q:Rat} (c:Cn h v q) (hs:sz q≤2048):Rv h v q:=⟨_,_,_,c.rw (χ hs (by decide)),by rw[lg_cn];omega,jA q⟩
theorem Rv.sz {h:PH} {v:Value} {q:Rat} (r:Rv h v q):sz q≤2048:=by
 obtain⟨_,_,_,_,h2,rfl⟩:=r
 unfold lg at h2
 omega
theorem Rv.up {h:PH} {v:Value} {q:Rat} (r:Rv h v q):Go.Q.sz q≤2^36:=χ r.sz (by decide)
theorem Rv.sa {h:PH} {v:Value} {q:Rat} (r:Rv h v q):∃b na nl nc da dl dc,v=.agg #[.bool b,.slice na nl nc,.slice da dl dc]∧Rv h (.agg #[.bool b,.slice na nl nc,.slice da dl dc]) q:=by
 have r0:=r
 obtain⟨_,_,_,h1,_,_⟩:=r
 obtain⟨_,_,_,_,_,_,_,rfl,_⟩:=h1.sa
 exact⟨_,_,_,_,_,_,_,rfl,r0⟩
theorem kg {h0 h:PH} [Le h0 h] {v:Value} {q:Rat} (hv:Rv h0 v q):Spec mach 95 #[v] h (fun r h'=>∃f,r=.tuple #[f,.bool true]∧Fr h' f q) NP:=by
 obtain⟨_,_,_,h1,h2,rfl⟩:=hv
 exact sN h1 h2
def Nc (h:PH) (r:Value) (q:Rat):Prop:=∃b na nl nc da dl dc e,r=.tuple #[.agg #[.bool b,.slice na nl nc,.slice da dl dc],.int .i64 e]∧(e=1∧2048 < sz q∨e=0∧sz q≤2048∧Cn h (.agg #[.bool b,.slice na nl nc,.slice da dl dc]) q)
theorem Nc.mk {h:PH} {b:Bool} {na da:Option Addr} {nl nc dl dc:Nat} {e:Int} {q:Rat} (k:e=1∧2048 < sz q∨e=0∧sz q≤2048∧Cn h (.agg #[.bool b,.slice na nl nc,.slice da dl dc]) q):Nc h (.tuple #[.agg #[.bool b,.slice na nl nc,.slice da dl dc],.int .i64 e]) q:=⟨_,_,_,_,_,_,_,_,rfl,k⟩
theorem Nc.ok {h:PH} {r:Value} {q:Rat} (k:Nc h r q) (hs:sz q≤2048):∃b na nl nc da dl dc,r=.tuple #[.agg #[.bool b,.slice na nl nc,.slice da dl dc],.int .i64 0]∧Cn h (.agg #[.bool b,.slice na nl nc,.slice da dl dc]) q:=by
 obtain⟨_,_,_,_,_,_,_,_,rfl,⟨_,k⟩ |⟨rfl,_,k⟩⟩:=k
 ·omega
 ·exact⟨_,_,_,_,_,_,_,rfl,k⟩
theorem qy {h0 h:PH} [Le h0 h] {v:Value} {x:Rat} (hx:Fr h0 v x):Spec mach 90 #[v] h (fun r h'=>Nc h' r x) NP:=by
 by_cases hs:sz x≤2048
 ·refine(cO hx hs).mono (fun r h' _ k=>?_) (fun _ _ _ k=>k)
  obtain⟨u,rfl,c⟩:=k
  obtain⟨_,_,_,_,_,_,_,rfl,c⟩:=c.sa
  exact Nc.mk (.inr ⟨rfl,hs,c⟩)
 ·exact(ms hx hs).mono (fun r h' _ k=>by subst k;exact Nc.mk (.inl ⟨rfl,by omega⟩)) (fun _ _ _ k=>k)
theorem oQ {h:PH} {n:Int} (h1: -4611686018427387904≤n) (h2:n≤4611686018427387904):Spec mach 47 #[.int .i64 n] h (fun v h'=>Cn h' v (n:Rat)) NP:=by
 have hs:sz (n:Rat)≤2048:=by
  unfold sz
  have e1:bl ((n:Rat).num.natAbs)≤64:=bl_le.2 (by simp;omega)
  have e2:bl ((n:Rat).den)≤64:=bl_le.2 (by simp)
  omega
 refine Spec.go [] Tryz.func47 rfl rfl (by kernel_rfl) fun C _=>?_
 simp(disch:=omega) only[go_sem,ξ,ζ]
 refine caN (by exact cB (by omega) (by omega)) ?_;rintro v1 h1 s1 q1;obtain⟨_,_,_,_,_,_,_,rfl,q1⟩:=q1.sa
 simp(disch:=omega) only[go_sem,ξ,ζ]
 refine caN (by exact cO q1 hs) ?_;rintro v4 h4 s4 ⟨u,rfl,c⟩;obtain⟨_,_,_,_,_,_,_,rfl,c⟩:=c.sa
 simp(disch:=omega) only[go_sem,ξ,ζ]
 exact c
theorem N32.rw {h:PH} {neg:Bool} {v w:Value} {n d:Nat} (hv:N32 h v n) (hw:N32 h w d) (bn:bl n≤2^30) (bd:bl d≤2^30):Rw h (.agg #[.bool neg,v,w]) neg n d:=by
 obtain⟨a,c,xs,rfl,ha,hx,rfl⟩:=hv.out
 obtain⟨a',c',ys,rfl,ha',hy,rfl⟩:=hw.out
 have l1:=dj (val 4294967296 xs)
 have l2:=dj (val 4294967296 ys)
 rw[hx] at l1
 rw[hy] at l2
 exact⟨a,c,xs,a',c',ys,rfl,ha,ha',rfl,rfl,by omega,by omega⟩
theorem rH {h0 h:PH} [Le h0 h] {v:Value} {n:Nat} (hv:N32 h0 v n):Spec mach 145 #[v] h (fun v h'=>N32 h' v n) NP:=by
 obtain⟨a,c,xs,rfl,ha,_,rfl⟩:=hv.out
 exact Of_N ha
theorem nameX:nameB ⟨#[120]⟩=true:=by decide+kernel
theorem Kids_x {h:PH}:Spec mach 264 #[.int .i64 2] h (fun v _=>v=.tuple #[.int .i64 0,.bool true]) NP:=by
 refine Spec.go [] Tryz.func264 rfl rfl (by kernel_rfl) fun C _=>?_
 try simp(maxSteps:=999999) (disch:=omega) only[go_sem,ξ,ζ]
theorem Kids_a {h:PH}:Spec mach 264 #[.int .i64 5] h (fun v _=>v=.tuple #[.int .i64 2,.bool true]) NP:=by
 refine Spec.go [] Tryz.func264 rfl rfl (by kernel_rfl) fun C _=>?_
 try simp(maxSteps:=999999) (disch:=omega) only[go_sem,ξ,ζ]
theorem Fields_x {h:PH}:Spec mach 228 #[exXv] h (fun v _=>v=.bool true) NP:=by
 unfold exXv
 refine Spec.go [] Tryz.func228 rfl rfl (by kernel_rfl) fun C _=>?_
 try simp(maxSteps:=999999) (disch:=omega) only[go_sem,ξ,ζ]
 refine caN (by exact Kids_x) ?_;rintro v1 h1 s1 rfl
 try simp(maxSteps:=999999) (disch:=omega) only[go_sem,ξ,ζ]
 refine caN (by exact IsName_spec) ?_;rintro v2 h2 s2 rfl
 try simp(maxSteps:=999999) (disch:=omega) only[go_sem,ξ,ζ,nameX]
 refine caN (by exact rH (N32.zero h2)) ?_;rintro v3 h3 s3 q3
 try simp(maxSteps:=999999) (disch:=omega) only[go_sem,ξ,ζ]
 refine caN (by exact bU q3) ?_;rintro v4 h4 s4 rfl
 try simp(maxSteps:=999999) (disch:=omega) only[go_sem,ξ,ζ]
 all_goals rfl
theorem Fields_a {h:PH} {b:Nat}:Spec mach 228 #[exAv b] h (fun v _=>v=.bool true) NP:=by
 unfold exAv
 refine Spec.go [] Tryz.func228 rfl rfl (by kernel_rfl) fun C _=>?_
 try simp(maxSteps:=999999) (disch:=omega) only[go_sem,ξ,ζ]
 refine caN (by exact Kids_a) ?_;rintro v1 h1 s1 rfl
 try simp(maxSteps:=999999) (disch:=omega) only[go_sem,ξ,ζ,beq_self_eq_true]
 refine caN (by exact rH (N32.zero h1)) ?_;rintro v3 h3 s3 q3
 try simp(maxSteps:=999999) (disch:=omega) only[go_sem,ξ,ζ]
 refine caN (by exact bU q3) ?_;rintro v4 h4 s4 rfl
 try simp(maxSteps:=999999) (disch:=omega) only[go_sem,ξ,ζ]
 all_goals rfl
theorem Count_x {h:PH} {d n:Int} (hd:0≤d∧d≤30) (hn:0≤n∧n < 300):Spec mach 185 #[exXv,.int .i64 d,.int .i64 n] h (fun v _=>v=.int .i64 (n+1)) NP:=by
 have k:=fun {h:PH}=>Fields_x (h:=h)
 unfold exXv at k ⊢
 have e1:¬n+1 > 300:=by omega
 have e2:¬d > 30:=by omega
 refine Spec.go [] Tryz.func185 rfl rfl (by kernel_rfl) fun C _=>?_
 try simp(maxSteps:=999999) (disch:=omega) only[go_sem,ξ,ζ,e1,e2,decide_false]
 refine caN (by exact k) ?_;rintro v1 h1 s1 rfl
 try simp(maxSteps:=999999) (disch:=omega) only[go_sem,ξ,ζ]
 refine lp [] (fun _:Nat=>⟨[(2,.v (.int .i64 (n+1))),(24,.v (.int .i64 0)),(25,.v (.int .i64 0))],[]⟩) (fun _ _=>True) (fun _=>0) 0 ?_ trivial (by kernel_rfl) ?_
 ·try simp(maxSteps:=999999) (disch:=omega) only[go_sem,ξ,ζ]
  all_goals rfl
 rintro i h2 _
 try simp(maxSteps:=999999) (disch:=omega) only[go_sem,ξ,ζ]
theorem kC_at {h0:PH} {b:Nat} (hb:kC b h0):∀i,i < 2→∀(j:Nat) v,xC7[j]?=some v→h0.at ((⟨b,i*7,none⟩:Addr).add j)=some v:=fun i hi j v hv=>by
 have hj:j < 7:=(List.getElem?_eq_some_iff.1 hv).1
 unfold kC at hb
 have:(⟨b,i*7,none⟩:Addr).add j=⟨b,i*7+j,none⟩:=by
  unfold Addr.add;split
  ·rename_i e;rw[e];rfl
  ·rfl
 rw[this]
 have e:h0.at ⟨b,i*7+j,none⟩=(xC7 ++xC7)[i*7+j]?:=by simp[PH.at,hb]
 rw[e]
 rcases(show i=0∨i=1 by omega) with rfl |rfl
 ·rw[List.getElem?_append_left (by show 0*7+j < 7;omega)];simpa using hv
 ·rw[List.getElem?_append_right (by show 7≤1*7+j;omega)]
  show xC7[1*7+j - 7]?=_
  rw[show 1*7+j - 7=j by omega];exact hv
theorem Count_a {h0 h:PH} [Le h0 h] {b:Nat} (hb:kC b h0):Spec mach 185 #[exAv b,.int .i64 1,.int .i64 0] h (fun v _=>v=.int .i64 3) NP:=by
 have k:=fun {h:PH}=>Fields_a (h:=h) (b:=b)
 have hat:=kC_at hb
 unfold exAv at k ⊢
 refine Spec.go [] Tryz.func185 rfl rfl (by kernel_rfl) fun C _=>?_
 try simp(maxSteps:=999999) (disch:=omega) only[go_sem,ξ,ζ]
 refine caN (by exact k) ?_;rintro v1 h1 s1 rfl
 try simp(maxSteps:=999999) (disch:=omega) only[go_sem,ξ,ζ]
 refine lp [] (fun i:Nat=>⟨[(1,.v (.int .i64 1)),(2,.v (.int .i64 (i+1:Nat))),(23,.v (.slice (some ⟨b,0,none⟩) 2 2)),(24,.v (.int .i64 2)),(25,.v (.int .i64 i))],[]⟩) (fun i h'=>Le h0 h'∧i≤2) (fun i=>2 - i) 0 ?_ ⟨inferInstance,by decide⟩ (by kernel_rfl) ?_
 ·try simp(maxSteps:=999999) (disch:=omega) only[go_sem,ξ,ζ]
  all_goals (constructor<;>rfl)
 rintro i h2 ⟨le2,hi⟩
 by_cases hl:(i:Int) < 2
 ·have kx:=fun {h:PH}=>Count_x (h:=h) (d:=2) (n:=(i+1:Nat)) (by omega) (by omega)
  unfold exXv at kx
  have e3:¬((i+1:Nat):Int)+1 > 300:=by omega
  try simp(maxSteps:=999999) (disch:=omega) only[go_sem,ξ,ζ,hl,decide_true]
  refine Exists.intro [.int .i64 2,.int .i64 0,.bool false,.slice none 0 0,.slice none 0 0,.string ⟨#[120]⟩,.slice none 0 0] (And.intro rfl (And.intro (fun j v hj=>le2.sub.at (hat i (by omega) j v hj)) ?_))
  try simp(maxSteps:=999999) (disch:=omega) only[go_sem,ξ,ζ]
  refine caN (by exact kx) ?_;rintro v3 h3 s3 rfl
  try simp(maxSteps:=999999) (disch:=omega) only[go_sem,ξ,ζ,e3,decide_false]
  dsimp only[lpE];refine⟨i+1,?_,⟨inferInstance,by omega⟩,by omega⟩
  try simp(maxSteps:=999999) (disch:=omega) only[go_sem,ξ,ζ]
  all_goals rfl
 ·have e:i=2:=by omega
  subst e
  try simp(maxSteps:=999999) (disch:=omega) only[go_sem,ξ,ζ,hl,decide_false]
  all_goals rfl
theorem EValid_spec {h0 h:PH} [Le h0 h] {b:Nat} (hb:kC b h0):Spec mach 131 #[exAv b] h (fun v _=>v=.bool true) NP:=by
 have k:=fun {h} [Le h0 h]=>Count_a (h:=h) hb
 unfold exAv at k ⊢
 refine Spec.go [] Tryz.func131 rfl rfl (by kernel_rfl) fun C _=>?_
 try simp(maxSteps:=999999) (disch:=omega) only[go_sem,ξ,ζ]
 refine caN (by exact k) ?_;rintro v1 h1 s1 rfl
 try simp(maxSteps:=999999) (disch:=omega) only[go_sem,ξ,ζ]
namespace NS
def clo:NS→Rat
 |.e=>1
 |.i a _=>a.getD 0
def chi:NS→Rat
 |.e=>0
 |.i _ b=>b.getD 0
theorem le_c {k:Nat} {x:NS} (hk:1≤k) (h:x.le k):sz x.clo≤k∧sz x.chi≤k:=by
 have h0:sz 0≤k:=χ HY hk
 have h1:sz 1≤k:=χ (by decide) hk
 cases x with
 |e=>exact⟨h1,h0⟩
 | i a b=>
  rw[le_i] at h
  refine⟨?_,?_⟩
  ·cases a with
   |none=>exact h0
   |some a=>exact h.1 _ rfl
  ·cases b with
   |none=>exact h0
   |some b=>exact h.2 _ rfl
end NS
theorem Cv.fl {h:PH} {v:Value} {x:NS} (r:Cv h v x):∃b1 a1 m1 c1 a2 m2 c2 b2 a3 m3 c3 a4 m4 c4,v=.agg #[.bool b1,.slice a1 m1 c1,.slice a2 m2 c2,.bool b2,.slice a3 m3 c3,.slice a4 m4 c4,.bool x.loN,.bool x.hiN]∧
  Cn h (.agg #[.bool b1,.slice a1 m1 c1,.slice a2 m2 c2]) x.clo∧Cn h (.agg #[.bool b2,.slice a3 m3 c3,.slice a4 m4 c4]) x.chi:=by
 have r0:=r
 obtain⟨b1,x1,y1,b2,x2,y2,rfl,h1,h2⟩:=r
 obtain⟨_,_,_,_,_,_,_,e1,_⟩:=h1.sa
 obtain⟨_,_,_,_,_,_,_,e2,_⟩:=h2.sa
 simp only[Value.agg.injEq,Array.mk.injEq,List.cons.injEq,and_true] at e1 e2
 obtain⟨_,rfl,rfl⟩:=e1
 obtain⟨_,rfl,rfl⟩:=e2
 cases x with
 |e=>exact⟨_,_,_,_,_,_,_,_,_,_,_,_,_,_,rfl,h1,h2⟩
 |i a b=>exact⟨_,_,_,_,_,_,_,_,_,_,_,_,_,_,rfl,h1,h2⟩
def NS.ri (x:NS):RI:=⟨decide (x.clo.num < 0),x.clo.num.natAbs,if x.clo.den=1 then 0 else x.clo.den,decide (x.chi.num < 0),x.chi.num.natAbs,if x.chi.den=1 then 0 else x.chi.den,x.loN,x.hiN⟩
theorem Cv.iv {h:PH} {v:Value} {x:NS} (r:Cv h v x) (hf:x.le 2048):Iv h v x.ri:=by
 obtain⟨b1,a1,m1,c1,a2,m2,c2,b2,a3,m3,c3,a4,m4,c4,rfl,h1,h2⟩:=r.fl
 have hs:=NS.le_c (by decide) hf
 exact Iv.mk (h1.rw (χ hs.1 (by decide))) (h2.rw (χ hs.2 (by decide))) _ _
theorem NS.ri_big {x:NS} (hf:x.le 2048):x.ri.big=false:=by
 have hs:=NS.le_c (by decide) hf
 unfold RI.big NS.ri
 dsimp only
 have h1:¬lg (decide (x.clo.num < 0)) x.clo.num.natAbs (if x.clo.den=1 then 0 else x.clo.den):=by rw[lg_cn];omega
 have h2:¬lg (decide (x.chi.num < 0)) x.chi.num.natAbs (if x.chi.den=1 then 0 else x.chi.den):=by rw[lg_cn];omega
 simp only[h1,h2,decide_false,Bool.or_self]
theorem NS.ri_set {x:NS} (hx:x.ok):x.ri.set=x:=by
 unfold RI.set RI.lo RI.hi NS.ri
 dsimp only
 rw[jA,jA]
 cases x with
 |e=>simp[NS.loN,NS.hiN,NS.clo,NS.chi,NS.mk',ordO,show decide ((0:Rat) < 1)=true by decide]
 |i a b=>cases a<;>cases b<;>simp[NS.loN,NS.hiN,NS.clo,NS.chi,NS.mk']<;>simp[NS.ok] at hx<;>simp[hx]<;>rfl
theorem zC {h:PH} {a:Option Addr} {m c n:Nat} (r:N32 h (.slice a m c) n) (h0:n≠0) (h1:n < 4294967296):m=1∧∃ad,a=some ad∧h.at ad=some (.int .u32 n):=by
 have hW:W 4294967296 n=[n]:=by
  rw[W_pos (by decide) h0,qBi h1,Nat.div_eq_of_lt h1,ff]
 obtain⟨a',c',e,A⟩:=r
 rw[hW] at e A
 simp only[Value.slice.injEq,List.length_cons,List.length_nil] at e
 obtain⟨rfl,rfl,rfl⟩:=e
 obtain⟨ad,e1,e2⟩:=A.at_ 0 n rfl
 refine⟨rfl,ad,e1,?_⟩
 simpa[Addr.add] using e2
theorem E4 {h:PH} {a:Option Addr} {m c:Nat} (r:N32 h (.slice a m c) 0):m=0:=by
 obtain⟨a',c',e,A⟩:=r
 rw[ff] at e
 simp only[Value.slice.injEq,List.length_nil] at e
 exact e.2.1
end Go.Q
namespace Go.Q
open Go.Proofs Go.RowKit
set_option maxRecDepth 100000
set_option maxHeartbeats 8000000
theorem Vars_spec {h0 h:PH} [l0:Le h0 h] {b:Nat} (hb:kC b h0):Spec mach 132 #[exAv b] h (fun r h'=>∃ad c,r=.tuple #[.slice (some ad) 1 c,.int .i64 0]∧h'.at ad=some (.string ⟨#[120]⟩)) NP:=by
 refine⟨by kernel_rfl,fun w hw hg=>?_⟩
 have hb1:h b=some (xC7 ++xC7).toArray:=l0.sub _ _ hb
 obtain⟨T,f,hk⟩:=hw _ _ hb1
 have kV:∀m W,Below w.heap.size w W→CallsIn Fence.wide m Tryz.prog 131 #[exAv b] W fun e W'=>e=.returned (.bool true)∧Below W.heap.size W W':=fun m W hB=>by
  refine callsIn_wide.2 (((EValid_spec (h:=h) hb).run W (hw.below hB) hg).mono fun e W' hp=>?_)
  cases e with
  |returned v=>obtain⟨h',p1,_,_,_,rfl⟩:=hp;exact⟨rfl,p1⟩
  |panicked ch=>obtain⟨_,_,_,_,_,hp⟩:=hp;exact(hp:False).elim
  |outgrown=>exact(hp:False).elim
 refine(callsIn_wide.1 (vars_in ⟨(Array.getElem?_eq_some_iff.1 hk).1,T,f,hk⟩ kV)).mono fun e w' hp=>?_
 obtain⟨v,rfl,hr,hB⟩:=hp
 rcases hr.2 with⟨_,h1⟩ |⟨g,cap,cur,rfl,hge,hh,hn,_,hs,ht⟩
 ·cases h1
 ·have hgn:h g=none:=by
   cases e:h g with
   |none=>rfl
   |some cs=>have:=hw.lt e;omega
  refine⟨fun k=>if k=g then some cur else h k,hB,fun k cs hx=>?_,fun k cs hx=>?_,fun k hx=>?_,⟨g,0,none⟩,cap,rfl,?_⟩
  ·have hx:(if k=g then some cur else h k)=some cs:=hx
   by_cases e:k=g
   ·rw[if_pos e] at hx;cases hx;exact⟨_,_,e▸hh⟩
   ·rw[if_neg e] at hx;exact(hw.below hB) _ _ hx
  ·show(if k=g then some cur else h k)=some cs
   rw[if_neg (fun e=>by rw[e,hgn] at hx;cases hx)];exact hx
  ·have hx:(if k=g then some cur else h k)≠none:=hx
   by_cases e:k=g
   ·exact .inr (e▸hge)
   ·rw[if_neg e] at hx;exact .inl hx
  ·have e0:cur[0]?=some (.string ⟨#[120]⟩):=by
    have:=congrArg (·[0]?) ht
    simpa using this
   unfold PH.at
   simp[e0]
def x01:RI:=⟨false,0,0,false,1,0,false,false⟩
def l01:List Sd1:=[(⟨#[120]⟩,x01)]
theorem l01_ok:okB l01=true:=by decide+kernel
theorem l01_fnd:fnd l01 ⟨#[120]⟩=some 0:=by decide+kernel
theorem Ready_spec {h0 h:PH} [Le h0 h] {v:Value} {b:Nat} (hb:kC b h0) (hv:Boxv h0 v l01):Spec mach 86 #[exAv b,v,.int .i64 2] h (fun r _=>r=.int .i64 0) NP:=by
 have kE:=fun {h} [Le h0 h]=>EValid_spec (h:=h) hb
 have kB:=fun {h} [Le h0 h]=>BValid_spec (h:=h) hv
 have kN:=fun {h} [Le h0 h]=>Vars_spec (h:=h) hb
 have kI:=fun {h} [Le h0 h]=>Index_spec (h:=h) (s:=⟨#[120]⟩) hv
 rw[l01_ok] at kB
 rw[l01_fnd] at kI
 obtain⟨va,vm,vc,rfl⟩:=hv.sa
 unfold exAv at kE kN ⊢
 refine Spec.go [] Tryz.func86 rfl rfl (by kernel_rfl) fun C _=>?_
 try simp(maxSteps:=999999) (disch:=omega) only[go_sem,ξ,ζ]
 refine caN (by exact kE) ?_;rintro v1 h1 s1 rfl
 try simp(maxSteps:=999999) (disch:=omega) only[go_sem,ξ,ζ]
 refine caN (by exact kB) ?_;rintro v2 h2 s2 rfl
 try simp(maxSteps:=999999) (disch:=omega) only[go_sem,ξ,ζ]
 refine caN (by exact kN) ?_;rintro v3 h3 s3 ⟨ad,c,rfl,hat⟩
 try simp(maxSteps:=999999) (disch:=omega) only[go_sem,ξ,ζ]
 refine lp [] (fun i:Nat=>⟨[(1,.v (.slice va vm vc)),(31,.v (.slice (some ad) 1 c)),(32,.v (.int .i64 1)),(33,.v (.int .i64 i))],[]⟩) (fun i h'=>Le h0 h'∧h'.at ad=some (.string ⟨#[120]⟩)∧i≤1) (fun i=>1 - i) 0 ?_ ⟨inferInstance,hat,by decide⟩ (by kernel_rfl) ?_
 ·try simp(maxSteps:=999999) (disch:=omega) only[go_sem,ξ,ζ]
  all_goals rfl
 rintro i h4 ⟨le4,hat4,hi⟩
 by_cases hl:(i:Int) < 1
 ·obtain rfl:i=0:=by omega
  try simp(maxSteps:=999999) (disch:=omega) only[go_sem,ξ,ζ]
  refine aE hat4 ?_
  try simp(maxSteps:=999999) (disch:=omega) only[go_sem,ξ,ζ]
  refine caN (by exact kI) ?_;rintro v5 h5 s5 rfl
  try simp(maxSteps:=999999) (disch:=omega) only[go_sem,ξ,ζ]
  dsimp only[lpE];refine⟨1,?_,⟨inferInstance,s5.sub.at hat4,by omega⟩,by omega⟩
  ·try simp(maxSteps:=999999) (disch:=omega) only[go_sem,ξ,ζ]
   all_goals rfl
 ·try simp(maxSteps:=999999) (disch:=omega) only[go_sem,ξ,ζ,hl,decide_false]
end Go.Q
