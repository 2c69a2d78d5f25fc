/-
  Contracts of package interval, and what stands on it. Conditions: each theorem's own.
-/
import Derived.Test.YtdhfkmaejkgceaaGreatDoorK8620acPkG
import Derived.Test.YtdhfkmaejkgceaaGreatDoorKe7d0bdPkM
import Derived.Test.YtdhfkmaejkgceaaGreatDoorK5abc92PkL
import Derived.Test.YtdhfkmaejkgceaaGreatDoorKaa6e79PkI
set_option linter.unusedVariables false
set_option linter.unusedSimpArgs false
open Nat renaming reduceBEq→ξ,reduceAdd→ζ,le_trans→χ,zero_le→qBh,lt_or_ge→qBj
open Bool renaming false_eq_true→qAw
open List renaming all_eq_true→qBd
namespace Go.Q
open Go.Proofs
set_option maxRecDepth 100000
set_option maxHeartbeats 4000000
theorem px {x y:Rat} {k:Nat} (hx:sz x≤k) (hy:sz y≤k):sz (max x y)≤k:=by
 by_cases h:x < y
 ·rw[show max x y=y by grind];exact hy
 ·rw[show max x y=x by grind];exact hx
theorem py {x y:Rat} {k:Nat} (hx:sz x≤k) (hy:sz y≤k):sz (min x y)≤k:=by
 by_cases h:y < x
 ·rw[show min x y=y by grind];exact hy
 ·rw[show min x y=x by grind];exact hx
theorem up36 {n:Nat} (h:n≤2^30):n≤2^36:=by omega
def Sd (h:PH) (v:Value):NS→Prop
 |.e=>∃b1 x1 y1 b2 x2 y2 p q,v=.agg #[.bool b1,x1,y1,.bool b2,x2,y2,.bool false,.bool false,.bool true]∧En h b1 x1 y1 (some p)∧En h b2 x2 y2 (some q)∧sz p≤2^30∧sz q≤2^30
 |.i a b=>Sn h v (.i a b)
theorem Sd.sn {h:PH} {v:Value} {x:NS} (r:Sd h v x):Sn h v x:=by
 cases x with
 |i a b=>exact r
 |e=>obtain⟨b1,x1,y1,b2,x2,y2,p,q,rfl,h1,h2,_⟩:=r;exact⟨_,_,_,_,_,_,_,_,rfl,h1.junk,h2.junk⟩
theorem Sd.to {h h':PH} {v:Value} {x:NS} (r:Sd h v x) [Le h h']:Sd h' v x:=by
 cases x with
 |i a b=>exact Sn.to (x:=.i a b) r
 |e=>obtain⟨b1,x1,y1,b2,x2,y2,p,q,hv,h1,h2,k⟩:=r;exact⟨b1,x1,y1,b2,x2,y2,p,q,hv,h1.to,h2.to,k⟩
theorem Sd.ee {h:PH} {v:Value} (r:Sd h v .e):∃b1 a1 m1 c1 a2 m2 c2 b2 a3 m3 c3 a4 m4 c4 p q,v=.agg #[.bool b1,.slice a1 m1 c1,.slice a2 m2 c2,.bool b2,.slice a3 m3 c3,.slice a4 m4 c4,.bool false,.bool false,.bool true]∧
  En h b1 (.slice a1 m1 c1) (.slice a2 m2 c2) (some p)∧En h b2 (.slice a3 m3 c3) (.slice a4 m4 c4) (some q)∧sz p≤2^30∧sz q≤2^30:=by
 obtain⟨b1,x1,y1,b2,x2,y2,p,q,rfl,h1,h2,k⟩:=r
 obtain⟨_,_,_,_,_,_,rfl,rfl⟩:=h1.sl
 obtain⟨_,_,_,_,_,_,rfl,rfl⟩:=h2.sl
 exact⟨_,_,_,_,_,_,_,_,_,_,_,_,_,_,_,_,rfl,h1,h2,k⟩
theorem dK {h0 h:PH} [Le h0 h] {v:Value} {x:RI} (hv:Iv h0 v x) (g:x.big=false):Spec mach 47 #[v] h (fun v h'=>Sd h' v x.set) NP:=by
 obtain⟨g1,g2⟩:=RI.small g
 refine(wy hv g1 g2).mono (fun v h' _ r=>?_) (fun _ _ _ e=>e)
 rw[←RI.set_eq]
 have z1:sz (qof x.n1 x.a1 x.d1)≤2^30:=by unfold Go.Q.lg at g1;omega
 have z2:sz (qof x.n2 x.a2 x.d2)≤2^30:=by unfold Go.Q.lg at g2;omega
 obtain⟨b1,x1,y1,b2,x2,y2,rfl,h1,h2⟩:=r
 unfold rdS PS.n at*
 dsimp only at*
 cases hl:x.l with
 | true=>exact⟨b1,x1,y1,b2,x2,y2,by cases x.u<;>rfl,(En.of h1).junk,by cases x.u with
  |true=>exact(En.of h2).junk
  |false=>exact En.of h2⟩
 | false=>
  cases hu:x.u with
  |true=>exact⟨b1,x1,y1,b2,x2,y2,rfl,En.of h1,(En.of h2).junk⟩
  | false=>
   by_cases hc:qof x.n2 x.a2 x.d2 < qof x.n1 x.a1 x.d1
   ·simp only[hc,decide_true,Bool.not_false,Bool.and_true,cond_true]
    exact⟨b1,x1,y1,b2,x2,y2,_,_,rfl,En.of h1,En.of h2,z1,z2⟩
   ·simp only[hc,decide_false,Bool.and_false,cond_false]
    exact⟨b1,x1,y1,b2,x2,y2,rfl,En.of h1,En.of h2⟩
theorem sum_set {h0 h:PH} [Le h0 h] {v w:Value} {a b c d:Option Rat} (hs:Sn h0 v (.i a b)) (ht:Sn h0 w (.i c d)) (ls:(NS.i a b).le (2^30)) (lt:(NS.i c d).le (2^30)):
  Spec mach 131 #[v,w] h (fun v h'=>Sn h' v (NS.sum (.i a b) (.i c d))) NP:=by
 obtain⟨b1,a1,m1,c1,a2,m2,c2,b2,a3,m3,c3,a4,m4,c4,rfl,h1,h2⟩:=hs.ie
 obtain⟨b1',a1',m1',c1',a2',m2',c2',b2',a3',m3',c3',a4',m4',c4',rfl,h3,h4⟩:=ht.ie
 rw[NS.le_i] at ls lt
 cases a<;>cases c<;>cases b<;>cases d<;>
 ·dsimp only[Option.isNone]
  refine Spec.go [] Tryz.func131 rfl rfl (by kernel_rfl) fun C _=>?_
  try simp(maxSteps:=999999) (disch:=omega) only[go_sem,ξ,ζ]
  try (refine caN (by exact iV h1.num h3.num (up36 (ls.1 _ rfl)) (up36 (lt.1 _ rfl))) ?_;rintro _ g1 _ f1;obtain⟨_,_,_,_,_,_,_,rfl,f1⟩:=f1.sa;(try simp(maxSteps:=999999) (disch:=omega) only[go_sem,ξ,ζ]))
  try (refine caN (by exact iV h2.num h4.num (up36 (ls.2 _ rfl)) (up36 (lt.2 _ rfl))) ?_;rintro _ g2 _ f2;obtain⟨_,_,_,_,_,_,_,rfl,f2⟩:=f2.sa;(try simp(maxSteps:=999999) (disch:=omega) only[go_sem,ξ,ζ]))
  try simp(maxSteps:=999999) (disch:=omega) only[go_sem,ξ,ζ]
  exact⟨_,_,_,_,_,_,rfl,by first |exact(En.of f1).to |exact En.nil _,by first |exact(En.of f2).to |exact En.nil _⟩
theorem Fp {h0 h:PH} [Le h0 h] {v w:Value} {a b c d:Option Rat} (hs:Sn h0 v (.i a b)) (ht:Sn h0 w (.i c d)) (ls:(NS.i a b).le (2^30)) (lt:(NS.i c d).le (2^30)):
  Spec mach 192 #[v,w] h (fun v h'=>Sn h' v (NS.joined (.i a b) (.i c d))) NP:=by
 obtain⟨b1,a1,m1,c1,a2,m2,c2,b2,a3,m3,c3,a4,m4,c4,rfl,h1,h2⟩:=hs.ie
 obtain⟨b1',a1',m1',c1',a2',m2',c2',b2',a3',m3',c3',a4',m4',c4',rfl,h3,h4⟩:=ht.ie
 rw[NS.le_i] at ls lt
 cases a<;>cases c<;>cases b<;>cases d<;>
 ·dsimp only[Option.isNone]
  refine Spec.go [] Tryz.func192 rfl rfl (by kernel_rfl) fun C _=>?_
  try simp(maxSteps:=999999) (disch:=omega) only[go_sem,ξ,ζ]
  try (refine caN (by exact dP h1.num h3.num (up36 (ls.1 _ rfl)) (up36 (lt.1 _ rfl))) ?_;rintro _ g1 _ f1;obtain⟨_,_,_,_,_,_,_,rfl,f1⟩:=f1.sa;(try simp(maxSteps:=999999) (disch:=omega) only[go_sem,ξ,ζ]))
  try (refine caN (by exact cE h2.num h4.num (up36 (ls.2 _ rfl)) (up36 (lt.2 _ rfl))) ?_;rintro _ g2 _ f2;obtain⟨_,_,_,_,_,_,_,rfl,f2⟩:=f2.sa;(try simp(maxSteps:=999999) (disch:=omega) only[go_sem,ξ,ζ]))
  try simp(maxSteps:=999999) (disch:=omega) only[go_sem,ξ,ζ]
  exact⟨_,_,_,_,_,_,rfl,by first |exact(En.of f1).to |exact En.nil _,by first |exact(En.of f2).to |exact En.nil _⟩
theorem Jw {h0 h:PH} [Le h0 h] {v w:Value} {y:NS} (hs:Sn h0 v .e) (ht:Sn h0 w y):Spec mach 192 #[v,w] h (fun v h'=>Sn h' v y) NP:=by
 obtain⟨b1,a1,m1,c1,a2,m2,c2,b2,a3,m3,c3,a4,m4,c4,l,u,rfl,h1,h2⟩:=hs.ee
 obtain⟨b1',a1',m1',c1',a2',m2',c2',b2',a3',m3',c3',a4',m4',c4',l',u',rfl,ht⟩:=ht.sa
 refine Spec.go [] Tryz.func192 rfl rfl (by kernel_rfl) fun C _=>?_
 try simp(maxSteps:=999999) (disch:=omega) only[go_sem,ξ,ζ]
 exact ht.to
theorem Jx {h0 h:PH} [Le h0 h] {v w:Value} {a b:Option Rat} (hs:Sn h0 v (.i a b)) (ht:Sn h0 w .e):Spec mach 192 #[v,w] h (fun v h'=>Sn h' v (.i a b)) NP:=by
 obtain⟨b1,a1,m1,c1,a2,m2,c2,b2,a3,m3,c3,a4,m4,c4,l,u,rfl,hs⟩:=hs.sa
 obtain⟨b1',a1',m1',c1',a2',m2',c2',b2',a3',m3',c3',a4',m4',c4',l',u',rfl,h3,h4⟩:=ht.ee
 dsimp only[NS.void] at hs ⊢
 refine Spec.go [] Tryz.func192 rfl rfl (by kernel_rfl) fun C _=>?_
 try simp(maxSteps:=999999) (disch:=omega) only[go_sem,ξ,ζ]
 exact hs.to
theorem mS {h0 h:PH} [Le h0 h] {v w:Value} {x y:NS} (hs:Sn h0 v x) (ht:Sn h0 w y) (ls:x.le (2^30)) (lt:y.le (2^30)):Spec mach 192 #[v,w] h (fun v h'=>Sn h' v (x.joined y)) NP:=by
 cases x with
 |e=>exact Jw hs ht
 | i a b=>cases y with
  |e=>exact Jx hs ht
  |i c d=>exact Fp hs ht ls lt

theorem Le.tr {a b c:PH} (x:Le a b) (y:Le b c):Le a c:=⟨x.sub.trans y.sub⟩
theorem fG {h:PH} {b:Nat} {cs:List Value} (hb:h b=some cs.toArray) (j:Nat) (v:Value) (hj:cs[j]?=some v):h.at ⟨b,j,none⟩=some v:=by
 simp[PH.at,hb,hj]
theorem dG {h:PH} {b:Nat} {cs:List Value} (hb:h b=some cs.toArray) (j:Nat) (v:Value) (hj:cs[j]?=some v):h.at ((⟨b,0,none⟩:Addr).add j)=some v:=by
 cases j<;>simp[PH.at,Addr.add,hb,hj]
theorem aK {h:PH} {b:Nat} {v:Value} (hb:h b=some #[v]):h.at ⟨b,0,none⟩=some v:=by
 simp[PH.at,hb]
def zIv:Value:=.agg #[.bool false,.slice none 0 0,.slice none 0 0,.bool false,.slice none 0 0,.slice none 0 0,.bool false,.bool false]
theorem Cv.sa {h:PH} {v:Value} {x:NS} (r:Cv h v x):∃b1 a1 m1 c1 a2 m2 c2 b2 a3 m3 c3 a4 m4 c4 l u,v=.agg #[.bool b1,.slice a1 m1 c1,.slice a2 m2 c2,.bool b2,.slice a3 m3 c3,.slice a4 m4 c4,.bool l,.bool u]∧
  Cv h (.agg #[.bool b1,.slice a1 m1 c1,.slice a2 m2 c2,.bool b2,.slice a3 m3 c3,.slice a4 m4 c4,.bool l,.bool u]) x:=by
 have r0:=r
 obtain⟨b1,x1,y1,b2,x2,y2,rfl,h1,h2⟩:=r
 obtain⟨_,_,_,_,_,_,_,e1,_⟩:=h1.sa
 obtain⟨_,_,_,_,_,_,_,e2,_⟩:=h2.sa
 simp only[Value.agg.injEq,Array.mk.injEq,List.cons.injEq,and_true] at e1 e2
 obtain⟨_,rfl,rfl⟩:=e1
 obtain⟨_,rfl,rfl⟩:=e2
 exact⟨_,_,_,_,_,_,_,_,_,_,_,_,_,_,_,_,rfl,r0⟩
theorem Cv.eight {h:PH} {v:Value} {x:NS} (r:Cv h v x):∃r0 r1 r2 r3 r4 r5 r6 r7,v=.agg #[r0,r1,r2,r3,r4,r5,r6,r7]∧[r0,r1,r2,r3,r4,r5,r6,r7].all Value.oneCell'=true:=by
 obtain⟨_,_,_,_,_,_,_,_,_,_,_,_,_,_,_,_,rfl,_⟩:=r.sa
 exact⟨_,_,_,_,_,_,_,_,rfl,rfl⟩
def Ir (h:PH) (r:Value):Out→Prop
 |.error e=>r=.tuple #[zIv,.int .i64 e]
 |.ok x=>∃u,r=.tuple #[u,.int .i64 0]∧Cv h u x
theorem Ir.to {h h':PH} {r:Value} {o:Out} (k:Ir h r o) [Le h h']:Ir h' r o:=by
 cases o with
 |error e=>exact k
 |ok x=>obtain⟨u,e,c⟩:=k;exact⟨u,e,c.to⟩
theorem Ir.sa {h:PH} {r:Value} {o:Out} (k:Ir h r o):∃b1 a1 m1 c1 a2 m2 c2 b2 a3 m3 c3 a4 m4 c4 l u e,r=.tuple #[.agg #[.bool b1,.slice a1 m1 c1,.slice a2 m2 c2,.bool b2,.slice a3 m3 c3,.slice a4 m4 c4,.bool l,.bool u],.int .i64 e]∧
  Ir h (.tuple #[.agg #[.bool b1,.slice a1 m1 c1,.slice a2 m2 c2,.bool b2,.slice a3 m3 c3,.slice a4 m4 c4,.bool l,.bool u],.int .i64 e]) o:=by
 cases o with
 |error e=>cases(k:r=_);exact⟨_,_,_,_,_,_,_,_,_,_,_,_,_,_,_,_,_,rfl,rfl⟩
 | ok x=>
  obtain⟨u,rfl,c⟩:=k
  obtain⟨_,_,_,_,_,_,_,_,_,_,_,_,_,_,_,_,rfl,c⟩:=c.sa
  exact⟨_,_,_,_,_,_,_,_,_,_,_,_,_,_,_,_,_,rfl,_,rfl,c⟩
theorem Sd.sa {h:PH} {v:Value} {x:NS} (r:Sd h v x):∃b1 a1 m1 c1 a2 m2 c2 b2 a3 m3 c3 a4 m4 c4 l u,v=.agg #[.bool b1,.slice a1 m1 c1,.slice a2 m2 c2,.bool b2,.slice a3 m3 c3,.slice a4 m4 c4,.bool l,.bool u,.bool x.void]∧
  Sd h (.agg #[.bool b1,.slice a1 m1 c1,.slice a2 m2 c2,.bool b2,.slice a3 m3 c3,.slice a4 m4 c4,.bool l,.bool u,.bool x.void]) x:=by
 cases x with
 |e=>obtain⟨_,_,_,_,_,_,_,_,_,_,_,_,_,_,p,q,rfl,h1,h2,k⟩:=r.ee;exact⟨_,_,_,_,_,_,_,_,_,_,_,_,_,_,_,_,rfl,_,_,_,_,_,_,p,q,rfl,h1,h2,k⟩
 |i a b=>obtain⟨_,_,_,_,_,_,_,_,_,_,_,_,_,_,rfl,h1,h2⟩:=Sn.ie r;exact⟨_,_,_,_,_,_,_,_,_,_,_,_,_,_,_,_,rfl,_,_,_,_,_,_,rfl,h1,h2⟩
def Does (f:FuncId) (args:Array Value) (h:PH):Out→Prop
 |.ok x=>Spec mach f args h (fun v h'=>Sn h' v x) NP
 |.error e=>Spec mach f args h NR (fail e)
def Gives (f:FuncId) (args:Array Value) (h:PH):Out→Prop
 |.ok x=>Spec mach f args h (fun v h'=>Cv h' v x) NP
 |.error e=>Spec mach f args h NR (fail e)
theorem Does.ok {f:FuncId} {args:Array Value} {h:PH} {x:NS} (d:Does f args h (.ok x)):Spec mach f args h (fun v h'=>Sn h' v x) NP:=d
theorem Does.err {f:FuncId} {args:Array Value} {h:PH} {e:Int} (d:Does f args h (.error e)):Spec mach f args h NR (fail e):=d
def RI.fin (x:RI) (o:Out):Out:=bif x.big then .error 1 else o.fin
def RI.fin2 (x y:RI) (o:Out):Out:=bif x.big || y.big then .error 1 else o.fin
theorem HZ {h:PH} {f:FuncId} {cap:Array Value} {o:Out} (g:Gives f cap h o):Spec mach 217 #[.func (.func f) #[] cap] h (fun r h'=>Ir h' r o) NP:=by
 cases o with
 |ok x=>exact tryIv_ok g (fun v h' _ r=>⟨r.eight,v,rfl,r⟩)
 |error e=>exact F4 g (fun _ _=>rfl)
theorem Ea {h0 h:PH} [Le h0 h] {v:Value} {x:RI} {f:FuncId} {cap:Array Value} {b1 b2:Nat} {cs:List Value} {o:Out} (hv:Iv h0 v x) (hb1:h b1=some #[.func (.func f) #[] cap]) (hc:v=.agg cs.toArray) (hl:cs.length=8) (hb2:h b2=some cs.toArray)
  (hd:x.big=false→∀(h':PH) [Le h h'] (s:Value),Sd h' s x.set→Does f (s :: cap.toList).toArray h' o):
  Gives 218 #[.pointer (some ⟨b1,0,none⟩),.pointer (some ⟨b2,0,none⟩)] h (x.fin o):=by
 subst hc
 unfold RI.fin
 cases g:x.big with
 | true=>
  refine Spec.go [] Tryz.func218 rfl rfl (by kernel_rfl) fun C _=>?_
  try simp(maxSteps:=999999) (disch:=omega) only[go_sem,ξ,ζ]
  refine aE (aK hb1) ?_
  try simp(maxSteps:=999999) (disch:=omega) only[go_sem,ξ,ζ]
  refine dL cs hl (dG hb2) ?_
  try simp(maxSteps:=999999) (disch:=omega) only[go_sem,ξ,ζ]
  exact caF (by exact fF hv g) (fun _ _ h=>h)
 | false=>
  have hd:=hd g
  dsimp only[cond_false]
  cases o with
  | error e=>
   refine Spec.go [] Tryz.func218 rfl rfl (by kernel_rfl) fun C _=>?_
   try simp(maxSteps:=999999) (disch:=omega) only[go_sem,ξ,ζ]
   refine aE (aK hb1) ?_
   try simp(maxSteps:=999999) (disch:=omega) only[go_sem,ξ,ζ]
   refine dL cs hl (dG hb2) ?_
   try simp(maxSteps:=999999) (disch:=omega) only[go_sem,ξ,ζ]
   refine caN (by exact dK hv g) ?_;rintro s1 h1 st1 hs1
   try simp(maxSteps:=999999) (disch:=omega) only[go_sem,ξ,ζ]
   exact caF (by exact(hd _ s1 hs1).err) (fun _ _ h=>h)
  | ok y=>
   dsimp only[Out.fin]
   by_cases hy:y.le 2048
   ·rw[decide_eq_true hy,cond_true]
    refine Spec.go [] Tryz.func218 rfl rfl (by kernel_rfl) fun C _=>?_
    try simp(maxSteps:=999999) (disch:=omega) only[go_sem,ξ,ζ]
    refine aE (aK hb1) ?_
    try simp(maxSteps:=999999) (disch:=omega) only[go_sem,ξ,ζ]
    refine dL cs hl (dG hb2) ?_
    try simp(maxSteps:=999999) (disch:=omega) only[go_sem,ξ,ζ]
    refine caN (by exact dK hv g) ?_;rintro s1 h1 st1 hs1
    try simp(maxSteps:=999999) (disch:=omega) only[go_sem,ξ,ζ]
    refine caN (by exact(hd _ s1 hs1).ok) ?_;rintro s2 h2 st2 hs2
    try simp(maxSteps:=999999) (disch:=omega) only[go_sem,ξ,ζ]
    refine caN (by exact Ck hs2 hy) ?_;rintro v3 h3 st3 hv3;obtain⟨_,_,_,_,_,_,_,_,_,_,_,_,_,_,_,_,rfl,hv3⟩:=hv3.sa
    try simp(maxSteps:=999999) (disch:=omega) only[go_sem,ξ,ζ]
    exact hv3
   ·rw[decide_eq_false hy,cond_false]
    refine Spec.go [] Tryz.func218 rfl rfl (by kernel_rfl) fun C _=>?_
    try simp(maxSteps:=999999) (disch:=omega) only[go_sem,ξ,ζ]
    refine aE (aK hb1) ?_
    try simp(maxSteps:=999999) (disch:=omega) only[go_sem,ξ,ζ]
    refine dL cs hl (dG hb2) ?_
    try simp(maxSteps:=999999) (disch:=omega) only[go_sem,ξ,ζ]
    refine caN (by exact dK hv g) ?_;rintro s1 h1 st1 hs1
    try simp(maxSteps:=999999) (disch:=omega) only[go_sem,ξ,ζ]
    refine caN (by exact(hd _ s1 hs1).ok) ?_;rintro s2 h2 st2 hs2
    try simp(maxSteps:=999999) (disch:=omega) only[go_sem,ξ,ζ]
    exact caF (by exact ze hs2 hy) (fun _ _ h=>h)
theorem jX {h0 h:PH} [Le h0 h] {v:Value} {x:RI} {f:FuncId} {cap:Array Value} {o:Out} (hv:Iv h0 v x)
  (hd:x.big=false→∀(h':PH) [Le h h'] (s:Value),Sd h' s x.set→Does f (s :: cap.toList).toArray h' o):
  Spec mach 156 #[v,.func (.func f) #[] cap] h (fun r h'=>Ir h' r (x.fin o)) NP:=by
 have hv0:=hv
 obtain⟨a1,m1,c1,a2,m2,c2,a3,m3,c3,a4,m4,c4,rfl,_,_⟩:=hv.sa
 refine Spec.go [(1,.t (.p 0 (.p 1 (.s [0,1,2,3,4,5] .d))))] Tryz.func156 rfl rfl (by kernel_rfl) fun C _=>?_
 try simp(maxSteps:=999999) (disch:=omega) only[go_sem,ξ,ζ]
 intro b2 h2 st2 hb2
 try simp(maxSteps:=999999) (disch:=omega) only[go_sem,ξ,ζ]
 intro b1 h1 st1 hb1
 try simp(maxSteps:=999999) (disch:=omega) only[go_sem,ξ,ζ]
 have hb1:=hb1 (by simp)
 have hb2:=st1.sub _ _ (hb2 (by simp))
 refine caN (by exact HZ (Ea (hv0.to (h':=h1)) hb1 rfl rfl hb2 (fun g h' i s hs=>@hd g h' (Le.tr inferInstance i) s hs))) ?_;rintro r3 h3 st3 hr3;obtain⟨_,_,_,_,_,_,_,_,_,_,_,_,_,_,_,_,_,rfl,hr3⟩:=hr3.sa
 try simp(maxSteps:=999999) (disch:=omega) only[go_sem,ξ,ζ]
 exact hr3
theorem Db {h0 h:PH} [Le h0 h] {v w:Value} {x y:RI} {f:FuncId} {cap:Array Value} {b1 b2 b3:Nat} {cs ds:List Value} {o:Out} (hv:Iv h0 v x) (hw:Iv h0 w y) (hc:v=.agg cs.toArray) (hl:cs.length=8) (hb1:h b1=some cs.toArray) (hb2:h b2=some #[.func (.func f) #[] cap]) (hc':w=.agg ds.toArray) (hl':ds.length=8) (hb3:h b3=some ds.toArray)
  (hd:x.big=false→y.big=false→∀(h':PH) [Le h h'] (s t:Value),Sd h' s x.set→Sd h' t y.set→Does f (s :: t :: cap.toList).toArray h' o):
  Gives 250 #[.pointer (some ⟨b1,0,none⟩),.pointer (some ⟨b2,0,none⟩),.pointer (some ⟨b3,0,none⟩)] h (x.fin2 y o):=by
 subst hc
 subst hc'
 unfold RI.fin2
 cases g:x.big with
 | true=>
  refine Spec.go [] Tryz.func250 rfl rfl (by kernel_rfl) fun C _=>?_
  try simp(maxSteps:=999999) (disch:=omega) only[go_sem,ξ,ζ]
  refine dL cs hl (dG hb1) ?_
  try simp(maxSteps:=999999) (disch:=omega) only[go_sem,ξ,ζ]
  exact caF (by exact fF hv g) (fun _ _ h=>h)
 | false =>
  cases g':y.big with
  | true=>
   refine Spec.go [] Tryz.func250 rfl rfl (by kernel_rfl) fun C _=>?_
   try simp(maxSteps:=999999) (disch:=omega) only[go_sem,ξ,ζ]
   refine dL cs hl (dG hb1) ?_
   try simp(maxSteps:=999999) (disch:=omega) only[go_sem,ξ,ζ]
   refine caN (by exact dK hv g) ?_;rintro s1 h1 st1 hs1;obtain⟨_,_,_,_,_,_,_,_,_,_,_,_,_,_,_,_,rfl,hs1⟩:=hs1.sa
   try simp(maxSteps:=999999) (disch:=omega) only[go_sem,ξ,ζ]
   refine aE (aK (st1.sub _ _ hb2)) ?_
   try simp(maxSteps:=999999) (disch:=omega) only[go_sem,ξ,ζ]
   refine dL ds hl' (dG (st1.sub _ _ hb3)) ?_
   try simp(maxSteps:=999999) (disch:=omega) only[go_sem,ξ,ζ]
   exact caF (by exact fF hw g') (fun _ _ h=>h)
  | false=>
   have hd:=hd g g'
   show Gives _ _ _ o.fin
   cases o with
   | error e=>
    refine Spec.go [] Tryz.func250 rfl rfl (by kernel_rfl) fun C _=>?_
    try simp(maxSteps:=999999) (disch:=omega) only[go_sem,ξ,ζ]
    refine dL cs hl (dG hb1) ?_
    try simp(maxSteps:=999999) (disch:=omega) only[go_sem,ξ,ζ]
    refine caN (by exact dK hv g) ?_;rintro s1 h1 st1 hs1;obtain⟨_,_,_,_,_,_,_,_,_,_,_,_,_,_,_,_,rfl,hs1⟩:=hs1.sa
    try simp(maxSteps:=999999) (disch:=omega) only[go_sem,ξ,ζ]
    refine aE (aK (st1.sub _ _ hb2)) ?_
    try simp(maxSteps:=999999) (disch:=omega) only[go_sem,ξ,ζ]
    refine dL ds hl' (dG (st1.sub _ _ hb3)) ?_
    try simp(maxSteps:=999999) (disch:=omega) only[go_sem,ξ,ζ]
    refine caN (by exact dK hw g') ?_;rintro s2 h2 st2 hs2
    try simp(maxSteps:=999999) (disch:=omega) only[go_sem,ξ,ζ]
    exact caF (by exact(hd _ _ s2 hs1.to hs2).err) (fun _ _ h=>h)
   | ok z=>
    dsimp only[Out.fin]
    by_cases hy:z.le 2048
    ·rw[decide_eq_true hy,cond_true]
     refine Spec.go [] Tryz.func250 rfl rfl (by kernel_rfl) fun C _=>?_
     try simp(maxSteps:=999999) (disch:=omega) only[go_sem,ξ,ζ]
     refine dL cs hl (dG hb1) ?_
     try simp(maxSteps:=999999) (disch:=omega) only[go_sem,ξ,ζ]
     refine caN (by exact dK hv g) ?_;rintro s1 h1 st1 hs1;obtain⟨_,_,_,_,_,_,_,_,_,_,_,_,_,_,_,_,rfl,hs1⟩:=hs1.sa
     try simp(maxSteps:=999999) (disch:=omega) only[go_sem,ξ,ζ]
     refine aE (aK (st1.sub _ _ hb2)) ?_
     try simp(maxSteps:=999999) (disch:=omega) only[go_sem,ξ,ζ]
     refine dL ds hl' (dG (st1.sub _ _ hb3)) ?_
     try simp(maxSteps:=999999) (disch:=omega) only[go_sem,ξ,ζ]
     refine caN (by exact dK hw g') ?_;rintro s2 h2 st2 hs2
     try simp(maxSteps:=999999) (disch:=omega) only[go_sem,ξ,ζ]
     refine caN (by exact(hd _ _ s2 hs1.to hs2).ok) ?_;rintro s3 h3 st3 hs3
     try simp(maxSteps:=999999) (disch:=omega) only[go_sem,ξ,ζ]
     refine caN (by exact Ck hs3 hy) ?_;rintro v4 h4 st4 hv4;obtain⟨_,_,_,_,_,_,_,_,_,_,_,_,_,_,_,_,rfl,hv4⟩:=hv4.sa
     try simp(maxSteps:=999999) (disch:=omega) only[go_sem,ξ,ζ]
     exact hv4
    ·rw[decide_eq_false hy,cond_false]
     refine Spec.go [] Tryz.func250 rfl rfl (by kernel_rfl) fun C _=>?_
     try simp(maxSteps:=999999) (disch:=omega) only[go_sem,ξ,ζ]
     refine dL cs hl (dG hb1) ?_
     try simp(maxSteps:=999999) (disch:=omega) only[go_sem,ξ,ζ]
     refine caN (by exact dK hv g) ?_;rintro s1 h1 st1 hs1;obtain⟨_,_,_,_,_,_,_,_,_,_,_,_,_,_,_,_,rfl,hs1⟩:=hs1.sa
     try simp(maxSteps:=999999) (disch:=omega) only[go_sem,ξ,ζ]
     refine aE (aK (st1.sub _ _ hb2)) ?_
     try simp(maxSteps:=999999) (disch:=omega) only[go_sem,ξ,ζ]
     refine dL ds hl' (dG (st1.sub _ _ hb3)) ?_
     try simp(maxSteps:=999999) (disch:=omega) only[go_sem,ξ,ζ]
     refine caN (by exact dK hw g') ?_;rintro s2 h2 st2 hs2
     try simp(maxSteps:=999999) (disch:=omega) only[go_sem,ξ,ζ]
     refine caN (by exact(hd _ _ s2 hs1.to hs2).ok) ?_;rintro s3 h3 st3 hs3
     try simp(maxSteps:=999999) (disch:=omega) only[go_sem,ξ,ζ]
     exact caF (by exact ze hs3 hy) (fun _ _ h=>h)
theorem mV {h0 h:PH} [Le h0 h] {v w:Value} {x y:RI} {f:FuncId} {cap:Array Value} {o:Out} (hv:Iv h0 v x) (hw:Iv h0 w y)
  (hd:x.big=false→y.big=false→∀(h':PH) [Le h h'] (s t:Value),Sd h' s x.set→Sd h' t y.set→Does f (s :: t :: cap.toList).toArray h' o):
  Spec mach 188 #[v,w,.func (.func f) #[] cap] h (fun r h'=>Ir h' r (x.fin2 y o)) NP:=by
 have hv0:=hv
 have hw0:=hw
 obtain⟨a1,m1,c1,a2,m2,c2,a3,m3,c3,a4,m4,c4,rfl,_,_⟩:=hv.sa
 obtain⟨a1',m1',c1',a2',m2',c2',a3',m3',c3',a4',m4',c4',rfl,_,_⟩:=hw.sa
 refine Spec.go [(1,.t (.p 0 (.p 1 (.p 2 (.s [0,1,2,3,4,5] .d)))))] Tryz.func188 rfl rfl (by kernel_rfl) fun C _=>?_
 try simp(maxSteps:=999999) (disch:=omega) only[go_sem,ξ,ζ]
 intro b1 h1 st1 hb1
 try simp(maxSteps:=999999) (disch:=omega) only[go_sem,ξ,ζ]
 intro b3 h2 st2 hb3
 try simp(maxSteps:=999999) (disch:=omega) only[go_sem,ξ,ζ]
 intro b2 h3 st3 hb2
 try simp(maxSteps:=999999) (disch:=omega) only[go_sem,ξ,ζ]
 have hb2:=hb2 (by simp)
 have hb3:=st3.sub _ _ (hb3 (by simp))
 have hb1:=st3.sub _ _ (st2.sub _ _ (hb1 (by simp)))
 refine caN (by exact HZ (Db (hv0.to (h':=h3)) (hw0.to (h':=h3)) rfl rfl hb1 hb2 rfl rfl hb3 (fun g g' h' i s t hs ht=>@hd g g' h' (Le.tr inferInstance i) s t hs ht))) ?_;rintro r4 h4 st4 hr4;obtain⟨_,_,_,_,_,_,_,_,_,_,_,_,_,_,_,_,_,rfl,hr4⟩:=hr4.sa
 try simp(maxSteps:=999999) (disch:=omega) only[go_sem,ξ,ζ]
 exact hr4
def bad (p:Int):Bool:=decide (p < 0) || decide (128 < p)
theorem jt {p:Int} (h:bad p=false):0≤p∧p≤128:=by
 unfold bad at h
 simp only[Bool.or_eq_false_iff,decide_eq_false_iff_not] at h
 omega
theorem i7 {p:Int} (h:bad p=true):p < 0∨128 < p:=by
 unfold bad at h
 simpa using h
def Out.prec (p:Int) (o:Out):Out:=bif bad p then .error 2 else o
theorem NS.le30 {x:NS} (h:x.le 2048):x.le (2^30):=h.up (by decide)
theorem RI.le30 {x:RI} (h:x.big=false):x.set.le (2^30):=NS.le30 (RI.le h)
theorem Ah {h0 h:PH} [Le h0 h] {v:Value} {x:NS} {p:Int} (hv:Sn h0 v x) (hf:x.le (2^30)) (hp:0≤p∧p≤128):
  Spec mach 159 #[v,.int .i64 p] h (fun v h'=>Sn h' v (x.hull p.toNat)) NP:=by
 have:=Hull_set (h:=h) (p:=p.toNat) hv hf (by omega)
 rwa[show((p.toNat:Nat):Int)=p by omega] at this
theorem Does.mk {f:FuncId} {args:Array Value} {h:PH} {x:NS} (s:Spec mach f args h (fun v h'=>Sn h' v x) NP):Does f args h (.ok x):=s
theorem Round1 {h0 h:PH} [Le h0 h] {s:Value} {x:NS} {p:Int} {b:Nat} (hs:Sd h0 s x) (hf:x.le (2^30)) (hb:h b=some #[.int .i64 p]):Does 157 #[s,.pointer (some ⟨b,0,none⟩)] h (Out.prec p (.ok (x.hull p.toNat))):=by
 obtain⟨_,_,_,_,_,_,_,_,_,_,_,_,_,_,_,_,rfl,hs⟩:=hs.sa
 unfold Out.prec
 cases g:bad p with
 | true=>
  show Spec _ _ _ _ NR (fail 2)
  refine Spec.go [] Tryz.func157 rfl rfl (by kernel_rfl) fun C _=>?_
  try simp(maxSteps:=999999) (disch:=omega) only[go_sem,ξ,ζ]
  refine aE (aK hb) ?_
  try simp(maxSteps:=999999) (disch:=omega) only[go_sem,ξ,ζ]
  exact caF (by exact iN (i7 g)) (fun _ _ h=>h)
 | false=>
  show Spec _ _ _ _ _ NP
  have hp:=jt g
  refine Spec.go [] Tryz.func157 rfl rfl (by kernel_rfl) fun C _=>?_
  try simp(maxSteps:=999999) (disch:=omega) only[go_sem,ξ,ζ]
  refine aE (aK hb) ?_
  try simp(maxSteps:=999999) (disch:=omega) only[go_sem,ξ,ζ]
  refine caN (by exact aU hp.1 hp.2) ?_;rintro v1 h1 st1 _
  try simp(maxSteps:=999999) (disch:=omega) only[go_sem,ξ,ζ]
  refine aE (aK (st1.sub _ _ hb)) ?_
  try simp(maxSteps:=999999) (disch:=omega) only[go_sem,ξ,ζ]
  refine caN (by exact Ah hs.sn hf hp) ?_;rintro s2 h2 st2 hs2;obtain⟨_,_,_,_,_,_,_,_,_,_,_,_,_,_,_,_,rfl,hs2⟩:=hs2.sa
  try simp(maxSteps:=999999) (disch:=omega) only[go_sem,ξ,ζ]
  exact hs2
theorem du {h0 h:PH} [Le h0 h] {v:Value} {x:RI} {p:Int} (hv:Iv h0 v x):Spec mach 102 #[v,.int .i64 p] h (fun r h'=>Ir h' r (x.fin (Out.prec p (.ok (x.set.hull p.toNat))))) NP:=by
 have hv0:=hv
 obtain⟨a1,m1,c1,a2,m2,c2,a3,m3,c3,a4,m4,c4,rfl,_,_⟩:=hv.sa
 refine Spec.go [(1,.t (.p 1 (.s [0,1,2,3,4,5,6] .d)))] Tryz.func102 rfl rfl (by kernel_rfl) fun C _=>?_
 try simp(maxSteps:=999999) (disch:=omega) only[go_sem,ξ,ζ]
 intro b h1 st1 hb
 try simp(maxSteps:=999999) (disch:=omega) only[go_sem,ξ,ζ]
 have hb:=hb (by simp)
 refine caN (by exact jX (hv0.to (h':=h1)) (fun g h' i s hs=>Round1 hs (RI.le30 g) (i.sub _ _ hb))) ?_;rintro r3 h3 st3 hr3;obtain⟨_,_,_,_,_,_,_,_,_,_,_,_,_,_,_,_,_,rfl,hr3⟩:=hr3.sa
 try simp(maxSteps:=999999) (disch:=omega) only[go_sem,ξ,ζ]
 exact hr3
theorem Iv.mk {h:PH} {b b':Bool} {x y x' y':Value} {n1 n2:Bool} {a1 d1 a2 d2:Nat} (hv:Rw h (.agg #[.bool b,x,y]) n1 a1 d1) (hw:Rw h (.agg #[.bool b',x',y']) n2 a2 d2) (l u:Bool):Iv h (.agg #[.bool b,x,y,.bool b',x',y',.bool l,.bool u]) ⟨n1,a1,d1,n2,a2,d2,l,u⟩:=by
 have e1:=hv
 have e2:=hw
 obtain⟨_,_,_,_,_,_,e1,_⟩:=e1
 obtain⟨_,_,_,_,_,_,e2,_⟩:=e2
 simp only[Value.agg.injEq,Array.mk.injEq,List.cons.injEq,and_true,Value.bool.injEq] at e1 e2
 obtain⟨rfl,_,_⟩:=e1
 obtain⟨rfl,_,_⟩:=e2
 exact⟨_,_,_,_,rfl,hv,hw⟩
theorem NS.le.minus {x:NS} {k:Nat} (h:x.le k):x.minus.le k:=by
 cases x with
 |e=>exact h
 | i a b=>
  rw[NS.le_i] at h
  show NS.le k (.i (b.map (-·)) (a.map (-·)))
  rw[NS.le_i]
  refine⟨fun q e=>?_,fun q e=>?_⟩
  ·cases b with
   |none=>cases e
   |some b=>cases e;rw[cz];exact h.2 _ rfl
  ·cases a with
   |none=>cases e
   |some a=>cases e;rw[cz];exact h.1 _ rfl
def rnd (p:Int) (x y:NS) (o:Out):Out:=Out.prec p (bif x.void || y.void then .ok .e else match o with |.error e=>.error e |.ok z=>.ok (z.hull p.toNat))
theorem yW {h0 h:PH} [Le h0 h] {s t:Value} {x y:NS} {p:Int} {f:FuncId} {cap:Array Value} {b1 b2:Nat} {o:Out} (hs:Sd h0 s x) (ht:Sd h0 t y) (hb1:h b1=some #[.int .i64 p]) (hb2:h b2=some #[.func (.func f) #[] cap])
  (hd:x.void=false→y.void=false→∀(h':PH) [Le h h'] (s t:Value),Sd h' s x→Sd h' t y→Does f (s :: t :: cap.toList).toArray h' o) (hl:∀z,o=.ok z→z.le (2^30)):
  Does 189 #[s,t,.pointer (some ⟨b1,0,none⟩),.pointer (some ⟨b2,0,none⟩)] h (rnd p x y o):=by
 obtain⟨_,_,_,_,_,_,_,_,_,_,_,_,_,_,_,_,rfl,hs⟩:=hs.sa
 obtain⟨_,_,_,_,_,_,_,_,_,_,_,_,_,_,_,_,rfl,ht⟩:=ht.sa
 unfold rnd Out.prec
 cases g:bad p with
 | true=>
  show Spec _ _ _ _ NR (fail 2)
  refine Spec.go [(4,.o [0,1,2,4,3,5,6])] Tryz.func189 rfl rfl (by kernel_rfl) fun C _=>?_
  try simp(maxSteps:=999999) (disch:=omega) only[go_sem,ξ,ζ]
  refine aE (aK hb1) ?_
  try simp(maxSteps:=999999) (disch:=omega) only[go_sem,ξ,ζ]
  exact caF (by exact iN (i7 g)) (fun _ _ h=>h)
 | false =>
  have hp:=jt g
  dsimp only[cond_false]
  cases gx:x.void with
  | true=>
   rw[gx] at hs
   show Spec _ _ _ _ _ NP
   refine Spec.go [(4,.o [0,1,2,4,3,5,6])] Tryz.func189 rfl rfl (by kernel_rfl) fun C _=>?_
   try simp(maxSteps:=999999) (disch:=omega) only[go_sem,ξ,ζ]
   refine aE (aK hb1) ?_
   try simp(maxSteps:=999999) (disch:=omega) only[go_sem,ξ,ζ]
   refine caN (by exact aU hp.1 hp.2) ?_;rintro v1 h1 st1 _
   try simp(maxSteps:=999999) (disch:=omega) only[go_sem,ξ,ζ]
   exact⟨_,_,_,_,_,_,_,_,rfl,En.nil _,En.nil _⟩
  | false=>
   rw[gx] at hs
   cases gy:y.void with
   | true=>
    rw[gy] at ht
    show Spec _ _ _ _ _ NP
    refine Spec.go [(4,.o [0,1,2,4,3,5,6])] Tryz.func189 rfl rfl (by kernel_rfl) fun C _=>?_
    try simp(maxSteps:=999999) (disch:=omega) only[go_sem,ξ,ζ]
    refine aE (aK hb1) ?_
    try simp(maxSteps:=999999) (disch:=omega) only[go_sem,ξ,ζ]
    refine caN (by exact aU hp.1 hp.2) ?_;rintro v1 h1 st1 _
    try simp(maxSteps:=999999) (disch:=omega) only[go_sem,ξ,ζ]
    exact⟨_,_,_,_,_,_,_,_,rfl,En.nil _,En.nil _⟩
   | false=>
    rw[gy] at ht
    have hd:=hd gx gy
    cases o with
    | error e=>
     show Spec _ _ _ _ NR (fail e)
     refine Spec.go [(4,.o [0,1,2,4,3,5,6])] Tryz.func189 rfl rfl (by kernel_rfl) fun C _=>?_
     try simp(maxSteps:=999999) (disch:=omega) only[go_sem,ξ,ζ]
     refine aE (aK hb1) ?_
     try simp(maxSteps:=999999) (disch:=omega) only[go_sem,ξ,ζ]
     refine caN (by exact aU hp.1 hp.2) ?_;rintro v1 h1 st1 _
     try simp(maxSteps:=999999) (disch:=omega) only[go_sem,ξ,ζ]
     refine aE (aK (st1.sub _ _ hb2)) ?_
     try simp(maxSteps:=999999) (disch:=omega) only[go_sem,ξ,ζ]
     refine aE (aK (st1.sub _ _ hb1)) ?_
     try simp(maxSteps:=999999) (disch:=omega) only[go_sem,ξ,ζ]
     exact caF (by exact(hd _ _ _ hs.to ht.to).err) (fun _ _ h=>h)
    | ok z=>
     show Spec _ _ _ _ _ NP
     refine Spec.go [(4,.o [0,1,2,4,3,5,6])] Tryz.func189 rfl rfl (by kernel_rfl) fun C _=>?_
     try simp(maxSteps:=999999) (disch:=omega) only[go_sem,ξ,ζ]
     refine aE (aK hb1) ?_
     try simp(maxSteps:=999999) (disch:=omega) only[go_sem,ξ,ζ]
     refine caN (by exact aU hp.1 hp.2) ?_;rintro v1 h1 st1 _
     try simp(maxSteps:=999999) (disch:=omega) only[go_sem,ξ,ζ]
     refine aE (aK (st1.sub _ _ hb2)) ?_
     try simp(maxSteps:=999999) (disch:=omega) only[go_sem,ξ,ζ]
     refine aE (aK (st1.sub _ _ hb1)) ?_
     try simp(maxSteps:=999999) (disch:=omega) only[go_sem,ξ,ζ]
     refine caN (by exact(hd _ _ _ hs.to ht.to).ok) ?_;rintro v2 h2 st2 hv2
     try simp(maxSteps:=999999) (disch:=omega) only[go_sem,ξ,ζ]
     refine caN (by exact Ah hv2 (hl _ rfl) hp) ?_;rintro _ h3 _ hv3;obtain⟨_,_,_,_,_,_,_,_,_,_,_,_,_,_,_,_,rfl,hv3⟩:=hv3.sa
     try simp(maxSteps:=999999) (disch:=omega) only[go_sem,ξ,ζ]
     exact hv3
theorem mC {h0 h:PH} [Le h0 h] {v w:Value} {x y:RI} {p:Int} {f:FuncId} {cap:Array Value} {o:Out} (hv:Iv h0 v x) (hw:Iv h0 w y)
  (hd:x.big=false→y.big=false→x.set.void=false→y.set.void=false→∀(h':PH) [Le h h'] (s t:Value),Sd h' s x.set→Sd h' t y.set→Does f (s :: t :: cap.toList).toArray h' o) (hl:x.big=false→y.big=false→∀z,o=.ok z→z.le (2^30)):
  Spec mach 125 #[v,w,.int .i64 p,.func (.func f) #[] cap] h (fun r h'=>Ir h' r (x.fin2 y (rnd p x.set y.set o))) NP:=by
 have hv0:=hv
 have hw0:=hw
 obtain⟨a1,m1,c1,a2,m2,c2,a3,m3,c3,a4,m4,c4,rfl,_,_⟩:=hv.sa
 obtain⟨a1',m1',c1',a2',m2',c2',a3',m3',c3',a4',m4',c4',rfl,_,_⟩:=hw.sa
 refine Spec.go [(1,.t (.p 2 (.p 3 (.s [0,1,2,3,4,5,6,7] .d))))] Tryz.func125 rfl rfl (by kernel_rfl) fun C _=>?_
 try simp(maxSteps:=999999) (disch:=omega) only[go_sem,ξ,ζ]
 intro b1 h1 st1 hb1
 try simp(maxSteps:=999999) (disch:=omega) only[go_sem,ξ,ζ]
 intro b2 h2 st2 hb2
 try simp(maxSteps:=999999) (disch:=omega) only[go_sem,ξ,ζ]
 have hb2:=hb2 (by simp)
 have hb1:=st2.sub _ _ (hb1 (by simp))
 refine caN (by exact mV (hv0.to (h':=h2)) (hw0.to (h':=h2)) (fun g g' h' i s t hs ht=>yW hs ht (i.sub _ _ hb1) (i.sub _ _ hb2) (fun k k' h'' i' s t hs ht=>@hd g g' k k' h'' (Le.tr (Le.tr inferInstance i) i') s t hs ht) (hl g g'))) ?_;rintro _ h4 _ hr4;obtain⟨_,_,_,_,_,_,_,_,_,_,_,_,_,_,_,_,_,rfl,hr4⟩:=hr4.sa
 try simp(maxSteps:=999999) (disch:=omega) only[go_sem,ξ,ζ]
 exact hr4
theorem NS.le.sum {x y:NS} (hx:x.le 2048) (hy:y.le 2048):(x.sum y).le (2^30):=by
  cases x with
  |e=>rfl
  | i a b =>cases y with
    |e=>rfl
    | i c d =>
      rw[NS.le_i] at hx hy
      show NS.le _ (.i (oadd a c) (oadd b d))
      rw[NS.le_i]
      refine⟨fun q e=>?_,fun q e=>?_⟩
      · cases a with
        |none=>cases e
        | some a=>cases c with
          |none=>cases e
          | some c=>
            cases e
            have:=dA a c
            have:=hx.1 _ rfl
            have:=hy.1 _ rfl
            omega
      · cases b with
        |none=>cases e
        | some b=>cases d with
          |none=>cases e
          | some d=>
            cases e
            have:=dA b d
            have:=hx.2 _ rfl
            have:=hy.2 _ rfl
            omega
theorem Sum1 {h0 h:PH} [Le h0 h] {s t:Value} {x y:NS} (hs:Sn h0 s x) (ht:Sn h0 t y) (gx:x.void=false) (gy:y.void=false) (lx:x.le (2^30)) (ly:y.le (2^30)):Spec mach 131 #[s,t] h (fun v h'=>Sn h' v (x.sum y)) NP:=by
 cases x with
 |e=>cases gx
 | i a b=>cases y with
  |e=>cases gy
  |i c d=>exact sum_set hs ht lx ly
theorem Gb (x:NS):x.minus.void=x.void:=by cases x<;>rfl
theorem Sub1 {h0 h:PH} [Le h0 h] {s t:Value} {x y:NS} (hs:Sn h0 s x) (ht:Sn h0 t y) (gx:x.void=false) (gy:y.void=false) (lx:x.le (2^30)) (ly:y.le (2^30)):Spec mach 130 #[s,t] h (fun v h'=>Sn h' v (x.sum y.minus)) NP:=by
 obtain⟨_,_,_,_,_,_,_,_,_,_,_,_,_,_,_,_,rfl,hs⟩:=hs.sa
 obtain⟨_,_,_,_,_,_,_,_,_,_,_,_,_,_,_,_,rfl,ht⟩:=ht.sa
 refine Spec.go [] Tryz.func130 rfl rfl (by kernel_rfl) fun C _=>?_
 try simp(maxSteps:=999999) (disch:=omega) only[go_sem,ξ,ζ]
 refine caN (by exact jK ht) ?_;rintro v1 h1 st1 hv1
 try simp(maxSteps:=999999) (disch:=omega) only[go_sem,ξ,ζ]
 refine caN (by exact Sum1 (hs.to (h':=h1)) hv1 gx (by rw[Gb];exact gy) lx ly.minus) ?_;rintro _ h2 _ hv2;obtain⟨_,_,_,_,_,_,_,_,_,_,_,_,_,_,_,_,rfl,hv2⟩:=hv2.sa
 try simp(maxSteps:=999999) (disch:=omega) only[go_sem,ξ,ζ]
 exact hv2
theorem jf {h0 h:PH} [Le h0 h] {v w:Value} {x y:RI} {p:Int} (hv:Iv h0 v x) (hw:Iv h0 w y):Spec mach 182 #[v,w,.int .i64 p] h (fun r h'=>Ir h' r (x.fin2 y (rnd p x.set y.set (.ok (x.set.sum y.set))))) NP:=by
 have hv0:=hv
 have hw0:=hw
 obtain⟨a1,m1,c1,a2,m2,c2,a3,m3,c3,a4,m4,c4,rfl,_,_⟩:=hv.sa
 obtain⟨a1',m1',c1',a2',m2',c2',a3',m3',c3',a4',m4',c4',rfl,_,_⟩:=hw.sa
 refine Spec.go [] Tryz.func182 rfl rfl (by kernel_rfl) fun C _=>?_
 try simp(maxSteps:=999999) (disch:=omega) only[go_sem,ξ,ζ]
 refine caN (by exact mC hv0 hw0 (fun g g' k k' h' _ s t hs ht=>Does.mk (Sum1 hs.sn ht.sn k k' (RI.le30 g) (RI.le30 g'))) (fun g g' z e=>by cases e;exact NS.le.sum (RI.le g) (RI.le g'))) ?_;rintro _ h3 _ hr3;obtain⟨_,_,_,_,_,_,_,_,_,_,_,_,_,_,_,_,_,rfl,hr3⟩:=hr3.sa
 try simp(maxSteps:=999999) (disch:=omega) only[go_sem,ξ,ζ]
 exact hr3
theorem qA {h0 h:PH} [Le h0 h] {v w:Value} {x y:RI} {p:Int} (hv:Iv h0 v x) (hw:Iv h0 w y):Spec mach 82 #[v,w,.int .i64 p] h (fun r h'=>Ir h' r (x.fin2 y (rnd p x.set y.set (.ok (x.set.sum y.set.minus))))) NP:=by
 have hv0:=hv
 have hw0:=hw
 obtain⟨a1,m1,c1,a2,m2,c2,a3,m3,c3,a4,m4,c4,rfl,_,_⟩:=hv.sa
 obtain⟨a1',m1',c1',a2',m2',c2',a3',m3',c3',a4',m4',c4',rfl,_,_⟩:=hw.sa
 refine Spec.go [] Tryz.func82 rfl rfl (by kernel_rfl) fun C _=>?_
 try simp(maxSteps:=999999) (disch:=omega) only[go_sem,ξ,ζ]
 refine caN (by exact mC hv0 hw0 (fun g g' k k' h' _ s t hs ht=>Does.mk (Sub1 hs.sn ht.sn k k' (RI.le30 g) (RI.le30 g'))) (fun g g' z e=>by cases e;exact NS.le.sum (RI.le g) (NS.le.minus (RI.le g')))) ?_;rintro _ h3 _ hr3;obtain⟨_,_,_,_,_,_,_,_,_,_,_,_,_,_,_,_,_,rfl,hr3⟩:=hr3.sa
 try simp(maxSteps:=999999) (disch:=omega) only[go_sem,ξ,ζ]
 exact hr3
namespace NS
theorem has_i {a b:Option Rat} {q:Rat}:(NS.i a b).has q=true↔(∀x,a=some x→x≤q)∧(∀x,b=some x→q≤x):=by
 cases a<;>cases b<;>simp[has]<;>grind
theorem ne_has {a b:Option Rat} (h:ordO a b=true):∃q,(NS.i a b).has q=true:=by
 cases a with
 | none=>cases b with
  |none=>exact⟨0,by simp[has]⟩
  |some b=>exact⟨b,by simp[has]<;>grind⟩
 | some a=>cases b with
  |none=>exact⟨a,by simp[has]<;>grind⟩
  |some b=>exact⟨a,by simp[ordO] at h;simp[has];grind⟩
theorem low_has {b:Option Rat} (c:Rat):∃q,q < c∧(NS.i none b).has q=true:=by
 cases b with
 |none=>exact⟨c - 1,by grind,by simp[has]⟩
 |some b=>exact⟨min (c - 1) b,by grind,by simp[has]<;>grind⟩
theorem high_has {a:Option Rat} (c:Rat):∃q,c < q∧(NS.i a none).has q=true:=by
 cases a with
 |none=>exact⟨c+1,by grind,by simp[has]⟩
 |some a=>exact⟨max (c+1) a,by grind,by simp[has]<;>grind⟩
theorem lo_has {a:Rat} {b:Option Rat} (h:ordO (some a) b=true):(NS.i (some a) b).has a=true:=by
 cases b with
 |none=>simp[has]<;>grind
 |some b=>simp[ordO] at h;simp[has];grind
theorem hi_has {a:Option Rat} {b:Rat} (h:ordO a (some b)=true):(NS.i a (some b)).has b=true:=by
 cases a with
 |none=>simp[has]<;>grind
 |some a=>simp[ordO] at h;simp[has];grind
theorem within_iff {x y:NS} (hx:x.ok):x.within y=true↔∀q,x.has q=true→y.has q=true:=by
 cases x with
 |e=>simp[within,has]
 | i a b =>
  cases y with
  | e=>
   obtain⟨q,hq⟩:=ne_has hx
   simp only[within,has,qAw,false_iff]
   exact fun h=>h q hq
  | i c d =>
   constructor
   ·intro h q hq
    rw[has_i] at hq ⊢
    cases a<;>cases b<;>cases c<;>cases d<;>simp[within,lowIn,highIn] at h hq ⊢<;>grind
   ·intro h
    have h1:lowIn c a=true:=by
     cases c with
     |none=>rfl
     | some c=>cases a with
      | none=>
       obtain⟨q,hc,hq⟩:=low_has (b:=b) c
       have:=has_i.1 (h q hq)
       have:=this.1 c rfl
       grind
      | some a=>
       have:=has_i.1 (h a (lo_has hx))
       have:=this.1 c rfl
       simp[lowIn,highIn];grind
    have h2:highIn d b=true:=by
     cases d with
     |none=>rfl
     | some d=>cases b with
      | none=>
       obtain⟨q,hc,hq⟩:=high_has (a:=a) d
       have:=has_i.1 (h q hq)
       have:=this.2 d rfl
       grind
      | some b=>
       have:=has_i.1 (h b (hi_has hx))
       have:=this.2 d rfl
       simp[lowIn,highIn];grind
    simp only[within,h1,h2,Bool.and_self]
theorem anti {x y:NS} (hx:x.ok) (hy:y.ok) (h1:x.within y=true) (h2:y.within x=true):x=y:=by
 cases x with
 | e=>cases y with
  |e=>rfl
  |i c d=>cases h2
 | i a b=>cases y with
  |e=>cases h1
  | i c d=>
   cases a<;>cases b<;>cases c<;>cases d<;>simp[within,lowIn,highIn] at h1 h2 ⊢<;>grind
theorem ext {x y:NS} (hx:x.ok) (hy:y.ok) (h:∀q,x.has q=y.has q):x=y:=
 anti hx hy ((within_iff hx).2 fun q k=>by rw[←h];exact k) ((within_iff hy).2 fun q k=>by rw[h];exact k)
theorem ok_joined {x y:NS} (hx:x.ok) (hy:y.ok):(joined x y).ok:=by
 cases x with
 |e=>exact hy
 | i a b=>cases y with
  |e=>exact hx
  |i c d=>cases a<;>cases b<;>cases c<;>cases d<;>simp[ok,ordO,joined,jmin,jmax] at hx hy ⊢<;>grind
end NS
namespace NS
end NS
def Bd (f:FuncId) (args:Array Value) (h:PH):Except Int Bool→Prop
 |.ok b=>Spec mach f args h (fun v _=>v=.bool b) NP
 |.error e=>Spec mach f args h NR (fail e)
def Br (r:Value):Except Int Bool→Prop
 |.ok b=>r=.tuple #[.bool b,.int .i64 0]
 |.error e=>r=.tuple #[.bool false,.int .i64 e]
theorem Br.sa {r:Value} {o:Except Int Bool} (k:Br r o):∃b e,r=.tuple #[.bool b,.int .i64 e]∧Br (.tuple #[.bool b,.int .i64 e]) o:=by
 cases o with
 |ok b=>exact⟨_,_,k,rfl⟩
 |error e=>exact⟨_,_,k,rfl⟩
theorem tU {h:PH} {f:FuncId} {cap:Array Value} {o:Except Int Bool} (g:Bd f cap h o):Spec mach 45 #[.func (.func f) #[] cap] h (fun r _=>Br r o) NP:=by
 cases o with
 |ok b=>exact tryBo_ok g (fun v h' _ r=>by subst r;exact⟨⟨b,rfl,rfl⟩,rfl⟩)
 |error e=>exact FZ g (fun _ _=>rfl)
theorem Sf.sa {h:PH} {v:Value} {s:PS} (r:Sf h v s):∃b1 a1 m1 c1 a2 m2 c2 b2 a3 m3 c3 a4 m4 c4,v=.agg #[.bool b1,.slice a1 m1 c1,.slice a2 m2 c2,.bool b2,.slice a3 m3 c3,.slice a4 m4 c4,.bool s.l,.bool s.u,.bool s.e]∧
  Fr h (.agg #[.bool b1,.slice a1 m1 c1,.slice a2 m2 c2]) s.lo∧Fr h (.agg #[.bool b2,.slice a3 m3 c3,.slice a4 m4 c4]) s.hi:=by
 obtain⟨b1,x1,y1,b2,x2,y2,rfl,h1,h2⟩:=r
 obtain⟨_,_,_,_,_,_,_,e1,_⟩:=h1.sa
 obtain⟨_,_,_,_,_,_,_,e2,_⟩:=h2.sa
 simp only[Value.agg.injEq,Array.mk.injEq,List.cons.injEq,and_true] at e1 e2
 obtain⟨_,rfl,rfl⟩:=e1
 obtain⟨_,rfl,rfl⟩:=e2
 exact⟨_,_,_,_,_,_,_,_,_,_,_,_,_,_,rfl,h1,h2⟩
def Zd (f:FuncId) (args:Array Value) (h:PH):Except Int Int→Prop
 |.ok b=>Spec mach f args h (fun v _=>v=.int .i64 b) NP
 |.error e=>Spec mach f args h NR (fail e)
def Zr (r:Value):Except Int Int→Prop
 |.ok b=>r=.tuple #[.int .i64 b,.int .i64 0]
 |.error e=>r=.tuple #[.int .i64 0,.int .i64 e]
theorem Zr.sa {r:Value} {o:Except Int Int} (k:Zr r o):∃b e,r=.tuple #[.int .i64 b,.int .i64 e]∧Zr (.tuple #[.int .i64 b,.int .i64 e]) o:=by
 cases o with
 |ok b=>exact⟨_,_,k,rfl⟩
 |error e=>exact⟨_,_,k,rfl⟩
theorem tryZ_any {h:PH} {f:FuncId} {cap:Array Value} {o:Except Int Int} (g:Zd f cap h o):Spec mach 77 #[.func (.func f) #[] cap] h (fun r _=>Zr r o) NP:=by
 cases o with
 |ok b=>exact tryIn_ok g (fun v h' _ r=>by subst r;exact⟨⟨b,rfl,rfl⟩,rfl⟩)
 |error e=>exact F0 g (fun _ _=>rfl)
def sgN (x:NS):Int:=
 if x.void=true then 4 else if 0 < x.slo then 2 else if x.shi < 0 then -2 else if x.slo=0∧x.shi=0 then 0 else if x.slo=0 then 1 else if x.shi=0 then -1 else 3
def sgO (x:RI):Except Int Int:=bif x.big then .error 1 else .ok (sgN x.set)
theorem Sign1 {h0 h:PH} [Le h0 h] {v:Value} {x:RI} {b1:Nat} {cs:List Value} (hv:Iv h0 v x) (hc:v=.agg cs.toArray) (hl:cs.length=8) (hb1:h b1=some cs.toArray):
    Zd 78 #[.pointer (some ⟨b1,0,none⟩)] h (sgO x):=by
  subst hc
  unfold sgO
  cases g:x.big with
  | true=>
    dsimp only[cond_true]
    refine Spec.go [] Tryz.func78 rfl rfl (by kernel_rfl) fun C _=>?_
    try simp(maxSteps:=999999) (disch:=omega) only[go_sem,ξ,ζ]
    refine dL cs hl (dG hb1) ?_
    try simp(maxSteps:=999999) (disch:=omega) only[go_sem,ξ,ζ]
    exact caF (by exact fF hv g) (fun _ _ h=>h)
  | false =>
    dsimp only[cond_false]
    have kR:=fun {h} [Le h0 h]=>dK (h:=h) hv g
    generalize x.set=s at*
    cases s with
    | e=>
      have es:sgN .e=4:=rfl
      rw[es]
      refine Spec.go [] Tryz.func78 rfl rfl (by kernel_rfl) fun C _=>?_
      try simp(maxSteps:=999999) (disch:=omega) only[go_sem,ξ,ζ]
      refine dL cs hl (dG hb1) ?_
      try simp(maxSteps:=999999) (disch:=omega) only[go_sem,ξ,ζ]
      refine caN (by exact kR) ?_;rintro s1 h1 st1 hs1;obtain⟨_,_,_,_,_,_,_,_,_,_,_,_,_,_,_,_,rfl,hs1⟩:=hs1.sa
      try simp(maxSteps:=999999) (disch:=omega) only[go_sem,ξ,ζ]
      dsimp only[NS.void] at*
      try simp(maxSteps:=999999) (disch:=omega) only[go_sem,ξ,ζ]
      refine caN (by exact pv hs1.sn) ?_;rintro v2 h2 st2 ⟨m1,m2,rfl⟩
      try simp(maxSteps:=999999) (disch:=omega) only[go_sem,ξ,ζ]
    | i a b=>
      have kS:=fun {h h':PH} [Le h h'] {v:Value} (hv:Sn h v (.i a b))=>jT (h:=h') hv
      have es:sgN (.i a b)=if 0 < (NS.i a b).slo then 2 else if (NS.i a b).shi < 0 then -2 else if (NS.i a b).slo=0∧(NS.i a b).shi=0 then 0 else if (NS.i a b).slo=0 then 1 else if (NS.i a b).shi=0 then -1 else 3:=by
        unfold sgN;rw[if_neg (by simp[NS.void])]
      rw[es]
      generalize(NS.i a b).slo=m1 at*
      generalize(NS.i a b).shi=m2 at*
      refine Spec.go [] Tryz.func78 rfl rfl (by kernel_rfl) fun C _=>?_
      try simp(maxSteps:=999999) (disch:=omega) only[go_sem,ξ,ζ]
      refine dL cs hl (dG hb1) ?_
      try simp(maxSteps:=999999) (disch:=omega) only[go_sem,ξ,ζ]
      refine caN (by exact kR) ?_;rintro s1 h1 st1 hs1;obtain⟨_,_,_,_,_,_,_,_,_,_,_,_,_,_,_,_,rfl,hs1⟩:=hs1.sa
      try simp(maxSteps:=999999) (disch:=omega) only[go_sem,ξ,ζ]
      dsimp only[NS.void] at*
      try simp(maxSteps:=999999) (disch:=omega) only[go_sem,ξ,ζ]
      refine caN (by exact kS hs1.sn) ?_;rintro v2 h2 st2 rfl
      try simp(maxSteps:=999999) (disch:=omega) only[go_sem,ξ,ζ]
      by_cases p1:0 < m1
      · rw[if_pos p1]
        try simp(maxSteps:=999999) (disch:=omega) only[go_sem,ξ,ζ]
      rw[if_neg p1]
      by_cases p2:m2 < 0
      · rw[if_pos p2]
        try simp(maxSteps:=999999) (disch:=omega) only[go_sem,ξ,ζ]
      rw[if_neg p2]
      by_cases p3:m1=0
      · by_cases p4:m2=0
        · rw[if_pos ⟨p3,p4⟩]
          try simp(maxSteps:=999999) (disch:=omega) only[go_sem,ξ,ζ]
        · rw[if_neg (fun k=>p4 k.2),if_pos p3]
          try simp(maxSteps:=999999) (disch:=omega) only[go_sem,ξ,ζ]
      · rw[if_neg (fun k=>p3 k.1),if_neg p3]
        by_cases p4:m2=0
        · rw[if_pos p4]
          try simp(maxSteps:=999999) (disch:=omega) only[go_sem,ξ,ζ]
        · rw[if_neg p4]
          try simp(maxSteps:=999999) (disch:=omega) only[go_sem,ξ,ζ]
theorem xp {h0 h:PH} [Le h0 h] {v:Value} {x:RI} (hv:Iv h0 v x):Spec mach 32 #[v] h (fun r _=>Zr r (sgO x)) NP:=by
 have hv0:=hv
 obtain⟨a1,m1,c1,a2,m2,c2,a3,m3,c3,a4,m4,c4,rfl,_,_⟩:=hv.sa
 refine Spec.go [(1,.t (.p 0 (.s [0,1,2,3,4,5] .d)))] Tryz.func32 rfl rfl (by kernel_rfl) fun C _=>?_
 try simp(maxSteps:=999999) (disch:=omega) only[go_sem,ξ,ζ]
 intro b1 h1 st1 hb1
 try simp(maxSteps:=999999) (disch:=omega) only[go_sem,ξ,ζ]
 have hb1:=hb1 (by simp)
 refine caN (by exact tryZ_any (Sign1 (hv0.to (h':=h1)) rfl rfl hb1)) ?_;rintro r3 h3 st3 hr3;obtain⟨_,_,rfl,hr3⟩:=hr3.sa
 try simp(maxSteps:=999999) (disch:=omega) only[go_sem,ξ,ζ]
 exact hr3
def NS.size:NS→NS
 |.e=>.e
 |.i a b=>if 0≤(NS.i a b).slo then .i a b else if (NS.i a b).shi≤0 then (NS.i a b).minus else .i (some ((0:Int):Rat)) (jmax (a.map (-·)) b)
theorem NS.size_i {a b:Option Rat}:(NS.i a b).size=if 0≤(NS.i a b).slo then .i a b else if (NS.i a b).shi≤0 then (NS.i a b).minus else .i (some ((0:Int):Rat)) (jmax (a.map (-·)) b):=rfl
theorem NS.le.size {x:NS} {k:Nat} (hk:1≤k) (h:x.le k):x.size.le k:=by
 cases x with
 |e=>exact h
 | i a b =>
  rw[NS.size_i]
  split
  ·exact h
  ·split
   ·exact h.minus
   ·rw[NS.le_i] at h ⊢
    refine⟨fun q e=>?_,fun q e=>?_⟩
    ·cases e;exact χ (by decide) hk
    ·cases a with
     |none=>cases e
     | some a=>
      cases b with
      |none=>cases e
      |some b=>cases e;exact px (by rw[cz];exact h.1 _ rfl) (h.2 _ rfl)
theorem qY {q:Rat}:sgn3 q= -1∨sgn3 q=0∨sgn3 q=1:=by unfold sgn3;grind
theorem zZ {a b:Rat} (h:¬b < a):sgn3 a≤sgn3 b:=by unfold sgn3;grind
theorem sgN_i {a b:Option Rat}:sgN (.i a b)=if 0 < (NS.i a b).slo then 2 else if (NS.i a b).shi < 0 then -2 else if (NS.i a b).slo=0∧(NS.i a b).shi=0 then 0 else if (NS.i a b).slo=0 then 1 else if (NS.i a b).shi=0 then -1 else 3:=by
 unfold sgN;rw[if_neg (by simp[NS.void])]
def NS.fin:NS→Bool
 |.e=>true
 |.i a b=>!a.isNone && !b.isNone
def RI.bo (x:RI) (b:Bool):Except Int Bool:=bif x.big then .error 1 else .ok b
theorem IsEmpty1 {h0 h:PH} [Le h0 h] {v:Value} {x:RI} {b1:Nat} {cs:List Value} (hv:Iv h0 v x) (hc:v=.agg cs.toArray) (hl:cs.length=8) (hb1:h b1=some cs.toArray):
  Bd 75 #[.pointer (some ⟨b1,0,none⟩)] h (x.bo x.set.void):=by
 subst hc
 unfold RI.bo
 cases g:x.big with
 | true=>
  dsimp only[cond_true]
  refine Spec.enter (args:=[_]) (n:=5) Tryz.func75 rfl (by kernel_rfl) rfl (by simp) [.tmp 1] rfl (fun C _=>?_)
  repeat (first |(refine wo rfl (fun k hk=>?_);simp(disch:=omega) only[go_sem,ξ,ζ];apply hk;clear hk k) |refine wkt rfl ?_ |refine wk0 ?_ |refine rg rfl rfl (fun K hK=>?_) |((first |refine ae ?_ |refine ac ?_);simp(disch:=decide) only[qs,qb,if_true,if_false,reduceIte]) |refine ah rfl (fun K hK=>?_) |refine ct rfl ?_ |((try simp(disch:=omega) only[go_sem,ξ,ζ]);(first |apply hK |(clear hK;apply hK) |(clear hK;clear hK;apply hK));clear hK;(try clear K);(try dsimp only[ag,qs,qb])))
  refine wk (fun k hk=>?_);simp(disch:=omega) only[go_sem,ξ,ζ];refine⟨cs,hl,fG hb1,?_⟩;apply hk;clear hk k;(repeat (first |(refine wo rfl (fun k hk=>?_);simp(disch:=omega) only[go_sem,ξ,ζ];apply hk;clear hk k) |refine wkt rfl ?_));(try refine wk0 ?_)
  exact cF rfl rfl rfl rfl (by exact fF hv g) (fun _ _ h=>h)
 | false=>
  dsimp only[cond_false]
  have kR:=fun {h} [Le h0 h]=>dK (h:=h) hv g
  generalize x.set=s at*
  cases s with
  | e=>
   refine Spec.enter (args:=[_]) (n:=5) Tryz.func75 rfl (by kernel_rfl) rfl (by simp) [.tmp 1] rfl (fun C _=>?_)
   repeat (first |(refine wo rfl (fun k hk=>?_);simp(disch:=omega) only[go_sem,ξ,ζ];apply hk;clear hk k) |refine wkt rfl ?_ |refine wk0 ?_ |refine rg rfl rfl (fun K hK=>?_) |((first |refine ae ?_ |refine ac ?_);simp(disch:=decide) only[qs,qb,if_true,if_false,reduceIte]) |refine ah rfl (fun K hK=>?_) |refine ct rfl ?_ |((try simp(disch:=omega) only[go_sem,ξ,ζ]);(first |apply hK |(clear hK;apply hK) |(clear hK;clear hK;apply hK));clear hK;(try clear K);(try dsimp only[ag,qs,qb])))
   refine wk (fun k hk=>?_);simp(disch:=omega) only[go_sem,ξ,ζ];refine⟨cs,hl,fG hb1,?_⟩;apply hk;clear hk k;(repeat (first |(refine wo rfl (fun k hk=>?_);simp(disch:=omega) only[go_sem,ξ,ζ];apply hk;clear hk k) |refine wkt rfl ?_));(try refine wk0 ?_)
   refine cN rfl rfl rfl rfl (by exact kR) ?_;rintro s1 h1 st1 hs1;obtain⟨_,_,_,_,_,_,_,_,_,_,_,_,_,_,_,_,rfl,hs1⟩:=hs1.ee
   repeat (first |(refine wo rfl (fun k hk=>?_);simp(disch:=omega) only[go_sem,ξ,ζ];apply hk;clear hk k) |refine wkt rfl ?_ |refine wk0 ?_ |refine rg rfl rfl (fun K hK=>?_) |((first |refine ae ?_ |refine ac ?_);simp(disch:=decide) only[qs,qb,if_true,if_false,reduceIte]) |refine ah rfl (fun K hK=>?_) |refine ct rfl ?_ |((try simp(disch:=omega) only[go_sem,ξ,ζ]);(first |apply hK |(clear hK;apply hK) |(clear hK;clear hK;apply hK));clear hK;(try clear K);(try dsimp only[ag,qs,qb])))
   refine ai ?_;simp(disch:=omega) only[go_sem,ξ,ζ]
   all_goals rfl
  | i a b=>
   have kR:=fun {h} [Le h0 h]=>(kR (h:=h)).mono (R':=fun v h'=>Sn h' v (.i a b)) (E':=NP) (fun _ _ _ k=>k) (fun _ _ _ k=>k)
   cases a<;>cases b<;>
   ·refine Spec.enter (args:=[_]) (n:=5) Tryz.func75 rfl (by kernel_rfl) rfl (by simp) [.tmp 1] rfl (fun C _=>?_)
    repeat (first |(refine wo rfl (fun k hk=>?_);simp(disch:=omega) only[go_sem,ξ,ζ];apply hk;clear hk k) |refine wkt rfl ?_ |refine wk0 ?_ |refine rg rfl rfl (fun K hK=>?_) |((first |refine ae ?_ |refine ac ?_);simp(disch:=decide) only[qs,qb,if_true,if_false,reduceIte]) |refine ah rfl (fun K hK=>?_) |refine ct rfl ?_ |((try simp(disch:=omega) only[go_sem,ξ,ζ]);(first |apply hK |(clear hK;apply hK) |(clear hK;clear hK;apply hK));clear hK;(try clear K);(try dsimp only[ag,qs,qb])))
    refine wk (fun k hk=>?_);simp(disch:=omega) only[go_sem,ξ,ζ];refine⟨cs,hl,fG hb1,?_⟩;apply hk;clear hk k;(repeat (first |(refine wo rfl (fun k hk=>?_);simp(disch:=omega) only[go_sem,ξ,ζ];apply hk;clear hk k) |refine wkt rfl ?_));(try refine wk0 ?_)
    refine cN rfl rfl rfl rfl (by exact kR) ?_;rintro s1 h1 st1 hs1;obtain⟨_,_,_,_,_,_,_,_,_,_,_,_,_,_,rfl,e1,e2⟩:=hs1.ie;(repeat (first |(refine wo rfl (fun k hk=>?_);simp(disch:=omega) only[go_sem,ξ,ζ];apply hk;clear hk k) |refine wkt rfl ?_));(try refine wk0 ?_)
    (try (simp(disch:=omega) only[go_sem,ξ,ζ]));apply hK;clear hK;(try clear K);(try dsimp only[ag,qs])
    dsimp only[Option.isNone]
    repeat (first |(refine wo rfl (fun k hk=>?_);simp(disch:=omega) only[go_sem,ξ,ζ];apply hk;clear hk k) |refine wkt rfl ?_ |refine wk0 ?_ |refine rg rfl rfl (fun K hK=>?_) |((first |refine ae ?_ |refine ac ?_);simp(disch:=decide) only[qs,qb,if_true,if_false,reduceIte]) |refine ah rfl (fun K hK=>?_) |refine ct rfl ?_ |((try simp(disch:=omega) only[go_sem,ξ,ζ]);(first |apply hK |(clear hK;apply hK) |(clear hK;clear hK;apply hK));clear hK;(try clear K);(try dsimp only[ag,qs,qb])))
    refine ai ?_;simp(disch:=omega) only[go_sem,ξ,ζ]
    all_goals rfl
theorem sI {h0 h:PH} [Le h0 h] {v:Value} {x:RI} (hv:Iv h0 v x):Spec mach 30 #[v] h (fun r _=>Br r (x.bo x.set.void)) NP:=by
 have hv0:=hv
 obtain⟨a1,m1,c1,a2,m2,c2,a3,m3,c3,a4,m4,c4,rfl,_,_⟩:=hv.sa
 refine Spec.enter (args:=[_]) (n:=8) Tryz.func30 rfl (by kernel_rfl) rfl (by simp) [.tmp 2,.tmp 3] rfl (fun C _=>?_)
 repeat (first |(refine rg rfl rfl (fun K hK=>?_);(repeat (first |(refine wo rfl (fun k hk=>?_);simp(disch:=omega) only[go_sem,ξ,ζ];apply hk;clear hk k) |refine wkt rfl ?_));(try refine wk0 ?_);apply hK;clear hK K;(try dsimp only[ag,qs,qb])) |((first |refine ae ?_ |refine ac ?_);simp(disch:=decide) only[qs,qb,if_true,if_false,reduceIte]) |refine ah rfl (fun K hK=>?_) |refine ct rfl ?_ |((first |refine hK _ _ ?_ |(clear hK;refine hK _ _ ?_) |(clear hK;clear hK;refine hK _ _ ?_));clear hK;(try clear K)))
 refine fk [.p 0,.o 0,.o 1,.o 2,.o 3,.o 4,.o 5] rfl rfl (fun K hK=>?_);(repeat (first |(refine wo rfl (fun k hk=>?_);simp(disch:=omega) only[go_sem,ξ,ζ];apply hk;clear hk k) |refine wkt rfl ?_));(try refine wk0 ?_)
 refine wkp ?_;simp(disch:=omega) only[go_sem,ξ,ζ];intro b1 h1 st1 hb1;(repeat (first |(refine wo rfl (fun k hk=>?_);simp(disch:=omega) only[go_sem,ξ,ζ];apply hk;clear hk k) |refine wkt rfl ?_));(try refine wk0 ?_)
 have hb1:=hb1 (by simp)
 refine cN rfl rfl rfl rfl (by exact tU (IsEmpty1 (hv0.to (h':=h1)) rfl rfl hb1)) ?_;rintro r3 h3 st3 hr3;obtain⟨_,_,rfl,hr3⟩:=hr3.sa;(repeat (first |(refine wo rfl (fun k hk=>?_);simp(disch:=omega) only[go_sem,ξ,ζ];apply hk;clear hk k) |refine wkt rfl ?_));(try refine wk0 ?_)
 (try (simp(disch:=omega) only[go_sem,ξ,ζ]));apply hK;clear hK;(try clear K);(try dsimp only[ag,qs])
 refine ai ?_;simp(disch:=omega) only[go_sem,ξ,ζ]
 exact hr3
set_option maxHeartbeats 8000000
theorem OwnRat_spec {h0 h:PH} [Le h0 h] {v:Value} {neg:Bool} {n d:Nat} (hv:Rw h0 v neg n d):Spec mach 76 #[v] h (fun v h'=>Rw h' v neg n d) NP:=by
 obtain⟨a,c,xs,a',c',ys,rfl,hx,hy,rfl,rfl,lx,ly⟩:=hv
 have k1:=fun {h} [Le h0 h]=>CloneA (h:=h) hx (by omega)
 have k2:=fun {h} [Le h0 h]=>CloneA (h:=h) hy (by omega)
 refine Spec.go [(1,.o [0,1,2,3,5,6,4,7,8,9])] Tryz.func76 rfl rfl (by kernel_rfl) fun C _=>?_
 try simp(maxSteps:=999999) (disch:=omega) only[go_sem,ξ,ζ]
 refine caN (by exact k1) ?_;rintro v1 h1 s1 ⟨_,_,rfl,q1⟩
 try simp(maxSteps:=999999) (disch:=omega) only[go_sem,ξ,ζ]
 refine caN (by exact k2) ?_;rintro v2 h2 s2 ⟨_,_,rfl,q2⟩
 try simp(maxSteps:=999999) (disch:=omega) only[go_sem,ξ,ζ]
 exact⟨_,_,_,_,_,_,rfl,q1.to,q2,rfl,rfl,lx,ly⟩
theorem Own_spec {h0 h:PH} [Le h0 h] {v:Value} {x:RI} (hv:Iv h0 v x):Spec mach 31 #[v] h (fun v h'=>Iv h' v x) NP:=by
 obtain⟨_,_,_,_,_,_,_,_,_,_,_,_,rfl,h1,h2⟩:=hv.sa
 have k1:=fun {h} [Le h0 h]=>OwnRat_spec (h:=h) h1
 have k2:=fun {h} [Le h0 h]=>OwnRat_spec (h:=h) h2
 refine Spec.go [(1,.o [0,1,3,4,6,7,8,9,2,5,10,11])] Tryz.func31 rfl rfl (by kernel_rfl) fun C _=>?_
 try simp(maxSteps:=999999) (disch:=omega) only[go_sem,ξ,ζ]
 refine caN (by exact k1) ?_;rintro v1 h1 s1 q1;obtain⟨_,_,_,_,_,_,_,rfl,q1⟩:=q1.sa
 try simp(maxSteps:=999999) (disch:=omega) only[go_sem,ξ,ζ]
 refine caN (by exact k2) ?_;rintro v2 h2 s2 q2;obtain⟨_,_,_,_,_,_,_,rfl,q2⟩:=q2.sa
 try simp(maxSteps:=999999) (disch:=omega) only[go_sem,ξ,ζ]
 exact Iv.mk q1.to q2 _ _
abbrev Sd1:=ByteArray×RI
def Sv (h:PH) (v:Value) (s:Sd1):Prop:=∃b1 a1 m1 c1 a2 m2 c2 b2 a3 m3 c3 a4 m4 c4 l u,v=.agg #[.string s.1,.bool b1,.slice a1 m1 c1,.slice a2 m2 c2,.bool b2,.slice a3 m3 c3,.slice a4 m4 c4,.bool l,.bool u]∧Iv h (.agg #[.bool b1,.slice a1 m1 c1,.slice a2 m2 c2,.bool b2,.slice a3 m3 c3,.slice a4 m4 c4,.bool l,.bool u]) s.2
def Boxv (h:PH) (v:Value) (l:List Sd1):Prop:=∃a c,v=.slice a l.length c∧l.length≤2^30∧∀i s,l[i]?=some s→∃ad b1 a1 m1 c1 a2 m2 c2 b2 a3 m3 c3 a4 m4 c4 e u,a=some ad∧
 (∀j v,([.string s.1,.bool b1,.slice a1 m1 c1,.slice a2 m2 c2,.bool b2,.slice a3 m3 c3,.slice a4 m4 c4,.bool e,.bool u]:List Value)[j]?=some v→h.at ((ad.add (i*9)).add j)=some v)∧
 Iv h (.agg #[.bool b1,.slice a1 m1 c1,.slice a2 m2 c2,.bool b2,.slice a3 m3 c3,.slice a4 m4 c4,.bool e,.bool u]) s.2
theorem Boxv.to {h h':PH} {v:Value} {l:List Sd1} (r:Boxv h v l) [t:Le h h']:Boxv h' v l:=by
 obtain⟨a,c,rfl,hl,k⟩:=r
 refine⟨a,c,rfl,hl,fun i s hi=>?_⟩
 obtain⟨ad,b1,a1,m1,c1,a2,m2,c2,b2,a3,m3,c3,a4,m4,c4,e,u,h1,h2,h3⟩:=k i s hi
 exact⟨ad,b1,a1,m1,c1,a2,m2,c2,b2,a3,m3,c3,a4,m4,c4,e,u,h1,fun j v hj=>t.sub.at (h2 j v hj),h3.to⟩
theorem Boxv.sa {h:PH} {v:Value} {l:List Sd1} (r:Boxv h v l):∃a m c,v=.slice a m c:=let ⟨a,c,h1,_⟩:=r;⟨a,_,c,h1⟩
theorem add_1 {a:Addr} {n j:Nat}:({block:=(a.add n).block,off:=(a.add n).off+1}:Addr).add j=(a.add n).add (j+1):=by
 unfold Addr.add
 split<;>split<;>simp_all<;>omega
def fnd (l:List Sd1) (s:ByteArray):Option Nat:=l.findIdx? fun x=>x.1.toList == s.toList
theorem Index1 {h0 h:PH} [Le h0 h] {v:Value} {x:Sd1} {s:ByteArray} {b:Nat} (hv:Sv h0 v x) (hb:h b=some #[.string s]):Spec mach 173 #[v,.pointer (some ⟨b,0,none⟩)] h (fun r _=>r=.bool (x.1.toList == s.toList)) NP:=by
 obtain⟨_,_,_,_,_,_,_,_,_,_,_,_,_,_,_,_,rfl,_⟩:=hv
 refine Spec.go [] Tryz.func173 rfl rfl (by kernel_rfl) fun C _=>?_
 try simp(maxSteps:=999999) (disch:=omega) only[go_sem,ξ,ζ]
 refine aE (aK hb) ?_
 try simp(maxSteps:=999999) (disch:=omega) only[go_sem,ξ,ζ]
theorem IndexFunc_spec {h0 h:PH} [Le h0 h] {v:Value} {l:List Sd1} {s:ByteArray} {b:Nat} (hv:Boxv h0 v l) (hb:h0 b=some #[.string s]):Spec mach 172 #[v,.func (.func 173) #[] #[.pointer (some ⟨b,0,none⟩)]] h (fun r _=>r=.int .i64 (match fnd l s with |some i=>(i:Int) |none=>-1)) NP:=by
 obtain⟨a,c,rfl,hl,k⟩:=hv
 refine Spec.go [] Tryz.func172 rfl rfl (by kernel_rfl) fun C _=>?_
 try simp(maxSteps:=999999) (disch:=omega) only[go_sem,ξ,ζ]
 refine lp [] (fun i:Nat=>⟨[(0,.v (.slice a l.length c)),(1,.v (.func (.func 173) #[] #[.pointer (some ⟨b,0,none⟩)])),(7,.v (.int .i64 l.length)),(8,.v (.int .i64 i))],[]⟩) (fun i h'=>Le h0 h'∧i≤l.length∧∀j x,j < i→l[j]?=some x→(x.1.toList == s.toList)=false) (fun i=>l.length - i) 0 ?_ ⟨inferInstance,qBh _,fun j w hj=>absurd hj (by omega)⟩ (by kernel_rfl) ?_
 ·try simp(maxSteps:=999999) (disch:=omega) only[go_sem,ξ,ζ]
  all_goals rfl
 rintro i h2 ⟨le2,hi,hj⟩
 by_cases hlt:(i:Int) < l.length
 ·obtain⟨x,hx⟩:∃x,l[i]?=some x:=⟨_,List.getElem?_eq_getElem (by omega)⟩
  obtain⟨ad,b1,a1,m1,c1,a2,m2,c2,b2,a3,m3,c3,a4,m4,c4,e,u,rfl,hat,hiv⟩:=k i x hx
  try simp(maxSteps:=999999) (disch:=omega) only[go_sem,ξ,ζ,hlt,decide_true]
  refine Exists.intro [_,_,_,_,_,_,_,_,_] (And.intro rfl (And.intro (fun j v hj=>le2.sub.at (hat j v hj)) ?_))
  try simp(maxSteps:=999999) (disch:=omega) only[go_sem,ξ,ζ]
  refine caN (by exact Index1 (h0:=h2) ⟨_,_,_,_,_,_,_,_,_,_,_,_,_,_,_,_,rfl,hiv.to⟩ (le2.sub _ _ hb)) ?_;rintro v3 h3 s3 rfl
  try simp(maxSteps:=999999) (disch:=omega) only[go_sem,ξ,ζ]
  cases e:(x.1.toList == s.toList) with
  | true=>
   have ef:fnd l s=some i:=by
    unfold fnd
    refine List.findIdx?_eq_some_iff_getElem.2 ⟨by omega,?_,fun j k=>?_⟩
    ·rw[List.getElem?_eq_getElem (by omega)] at hx
     cases hx;exact e
    ·have:=hj j _ k (List.getElem?_eq_getElem (by omega))
     simpa using this
   rw[ef]
   try simp(maxSteps:=999999) (disch:=omega) only[go_sem,ξ,ζ,e]
   all_goals rfl
  | false=>
   try simp(maxSteps:=999999) (disch:=omega) only[go_sem,ξ,ζ,e]
   dsimp only[lpE];refine⟨i+1,?_,⟨inferInstance,by omega,fun j y k hy=>?_⟩,by omega⟩
   ·try simp(maxSteps:=999999) (disch:=omega) only[go_sem,ξ,ζ]
    all_goals rfl
   ·rcases qBj j i with g |g
    ·exact hj j y g hy
    ·obtain rfl:j=i:=by omega
     rw[hx] at hy
     cases hy
     exact e
 ·have ef:fnd l s=none:=by
   unfold fnd
   refine List.findIdx?_eq_none_iff.2 fun x hx=>?_
   obtain⟨j,h⟩:=List.getElem?_of_mem hx
   have:=(List.getElem?_eq_some_iff.1 h).1
   exact hj j x (by omega) h
  rw[ef]
  try simp(maxSteps:=999999) (disch:=omega) only[go_sem,ξ,ζ,hlt,decide_false]
  all_goals rfl
theorem Index_spec {h0 h:PH} [Le h0 h] {v:Value} {l:List Sd1} {s:ByteArray} (hv:Boxv h0 v l):Spec mach 117 #[v,.string s] h (fun r _=>r=.int .i64 (match fnd l s with |some i=>(i:Int) |none=>-1)) NP:=by
 have hv0:=hv
 obtain⟨_,_,_,rfl⟩:=hv.sa
 refine Spec.go [(1,.t (.p 0 (.s [0,1,2,3] .d)))] Tryz.func117 rfl rfl (by kernel_rfl) fun C _=>?_
 try simp(maxSteps:=999999) (disch:=omega) only[go_sem,ξ,ζ]
 intro b h1 st1 hb
 try simp(maxSteps:=999999) (disch:=omega) only[go_sem,ξ,ζ]
 have hb:=hb (by simp)
 refine caN (by exact IndexFunc_spec (h0:=h1) hv0.to hb) ?_;rintro v1 h2 s2 rfl
 try simp(maxSteps:=999999) (disch:=omega) only[go_sem,ξ,ζ]
def Fnd (h:PH) (r:Value) (l:List Sd1) (s:ByteArray):Prop:=match fnd l s with
 |none=>r=.tuple #[zIv,.bool false]
 |some i=>∃v x,l[i]?=some x∧r=.tuple #[v,.bool true]∧Iv h v x.2
theorem BFind_spec {h0 h:PH} [Le h0 h] {v:Value} {l:List Sd1} {s:ByteArray} (hv:Boxv h0 v l):Spec mach 175 #[v,.string s] h (fun r h'=>Fnd h' r l s) NP:=by
 have kI:=fun {h} [Le h0 h]=>Index_spec (h:=h) (s:=s) hv
 unfold Fnd
 obtain⟨a,c,rfl,hl,k⟩:=hv
 cases e:fnd l s with
 | none=>
  rw[e] at kI
  refine Spec.go [] Tryz.func175 rfl rfl (by kernel_rfl) fun C _=>?_
  try simp(maxSteps:=999999) (disch:=omega) only[go_sem,ξ,ζ]
  refine caN (by exact kI) ?_;rintro v1 h1 s1 rfl
  try simp(maxSteps:=999999) (disch:=omega) only[go_sem,ξ,ζ]
  all_goals rfl
 | some i=>
  rw[e] at kI
  have hi:i < l.length:=(List.findIdx?_eq_some_iff_getElem.1 e).1
  obtain⟨x,hx⟩:∃x,l[i]?=some x:=⟨_,List.getElem?_eq_getElem hi⟩
  obtain⟨ad,b1,a1,m1,c1,a2,m2,c2,b2,a3,m3,c3,a4,m4,c4,f,u,rfl,hat,hiv⟩:=k i x hx
  refine Spec.go [] Tryz.func175 rfl rfl (by kernel_rfl) fun C _=>?_
  try simp(maxSteps:=999999) (disch:=omega) only[go_sem,ξ,ζ]
  refine caN (by exact kI) ?_;rintro v1 h1 s1 rfl
  try simp(maxSteps:=999999) (disch:=omega) only[go_sem,ξ,ζ]
  refine Exists.intro [_,_,_,_,_,_,_,_] (And.intro rfl (And.intro (fun j v hj=>by rw[add_1];exact s1.sub.at ((inferInstance:Le h0 h).sub.at (hat (j+1) v hj))) ?_))
  try simp(maxSteps:=999999) (disch:=omega) only[go_sem,ξ,ζ]
  refine caN (by exact Own_spec (hiv.to (h':=h1))) ?_;rintro v2 h2 s2 q2;obtain⟨_,_,_,_,_,_,_,_,_,_,_,_,rfl,q3⟩:=q2.sa
  try simp(maxSteps:=999999) (disch:=omega) only[go_sem,ξ,ζ]
  exact⟨_,_,hx,rfl,q2⟩
namespace NS
def lo0:NS→Rat
 |.e=>0
 |.i a _=>a.getD 0
def hi0:NS→Rat
 |.e=>0
 |.i _ b=>b.getD 0
def loN:NS→Bool
 |.e=>false
 |.i a _=>a.isNone
def hiN:NS→Bool
 |.e=>false
 |.i _ b=>b.isNone
end NS
def Rr (h:PH) (v:Value) (x:NS):Prop:=∃b1 x1 y1 b2 x2 y2,v=.agg #[.bool b1,x1,y1,.bool b2,x2,y2,.bool x.loN,.bool x.hiN,.bool x.void]∧Qr h (.agg #[.bool b1,x1,y1]) x.lo0∧Qr h (.agg #[.bool b2,x2,y2]) x.hi0
theorem Rr.to {h h':PH} {v:Value} {x:NS} (r:Rr h v x) [Le h h']:Rr h' v x:=let ⟨a,b,c,d,e,f,h1,h2,h3⟩:=r;⟨a,b,c,d,e,f,h1,h2.to,h3.to⟩
theorem Rr.sa {h:PH} {v:Value} {x:NS} (r:Rr h v x):∃b1 a1 m1 c1 a2 m2 c2 b2 a3 m3 c3 a4 m4 c4,v=.agg #[.bool b1,.slice a1 m1 c1,.slice a2 m2 c2,.bool b2,.slice a3 m3 c3,.slice a4 m4 c4,.bool x.loN,.bool x.hiN,.bool x.void]∧
  Qr h (.agg #[.bool b1,.slice a1 m1 c1,.slice a2 m2 c2]) x.lo0∧Qr h (.agg #[.bool b2,.slice a3 m3 c3,.slice a4 m4 c4]) x.hi0:=by
 obtain⟨b1,x1,y1,b2,x2,y2,rfl,h1,h2⟩:=r
 obtain⟨_,_,_,_,_,_,_,e1,_⟩:=h1.sa
 obtain⟨_,_,_,_,_,_,_,e2,_⟩:=h2.sa
 simp only[Value.agg.injEq,Array.mk.injEq,List.cons.injEq,and_true] at e1 e2
 obtain⟨_,rfl,rfl⟩:=e1
 obtain⟨_,rfl,rfl⟩:=e2
 exact⟨_,_,_,_,_,_,_,_,_,_,_,_,_,_,rfl,h1,h2⟩
theorem HY:sz 0≤1:=by decide
theorem NS.le_ends {k:Nat} {x:NS} (hk:1≤k):x.le k↔sz x.lo0≤k∧sz x.hi0≤k:=by
 have h0:sz 0≤k:=χ HY hk
 cases x with
 |e=>simp[NS.le,NS.all,NS.lo0,NS.hi0,h0]
 |i a b=>cases a<;>cases b<;>simp[NS.le,NS.all,NS.lo0,NS.hi0,h0]
theorem i6 {h:PH}:Spec mach 84 #[] h (fun v h'=>Rr h' v .e) NP:=by
 refine Spec.go [] Tryz.func84 rfl rfl (by kernel_rfl) fun C _=>?_
 try simp(maxSteps:=999999) (disch:=omega) only[go_sem,ξ,ζ]
 exact⟨_,_,_,_,_,_,rfl,Qr.none _,Qr.none _⟩
theorem RefOf {h0 h:PH} [Le h0 h] {v:Value} {x:RI} (hv:Iv h0 v x) (g:x.big=false):Spec mach 35 #[v] h (fun v h'=>Rr h' v x.set) NP:=by
 obtain⟨a1,m1,c1,a2,m2,c2,a3,m3,c3,a4,m4,c4,rfl,hx,hy⟩:=hv.sa
 obtain⟨g1,g2⟩:=RI.small g
 have z1:sz (qof x.n1 x.a1 x.d1)≤2^30:=by unfold Go.Q.lg at g1;omega
 have z2:sz (qof x.n2 x.a2 x.d2)≤2^30:=by unfold Go.Q.lg at g2;omega
 obtain⟨n1,a1',d1,n2,a2',d2,l,u⟩:=x
 dsimp only at*
 unfold RI.set RI.lo RI.hi NS.mk'
 dsimp only
 obtain⟨q1,hq1⟩:∃q,qof n1 a1' d1=q:=⟨_,rfl⟩
 obtain⟨q2,hq2⟩:∃q,qof n2 a2' d2=q:=⟨_,rfl⟩
 have k1:=fun {h} [Le h0 h]=>bM (h:=h) hx
 have k2:=fun {h} [Le h0 h]=>bM (h:=h) hy
 rw[hq1] at z1 k1 ⊢
 rw[hq2] at z2 k2 ⊢
 cases l with
 | true=>
  cases u with
  | true=>
   refine Spec.go [] Tryz.func35 rfl rfl (by kernel_rfl) fun C _=>?_
   try simp(maxSteps:=999999) (disch:=omega) only[go_sem,ξ,ζ]
   exact⟨_,_,_,_,_,_,rfl,Qr.none _,Qr.none _⟩
  | false=>
   refine Spec.go [] Tryz.func35 rfl rfl (by kernel_rfl) fun C _=>?_
   try simp(maxSteps:=999999) (disch:=omega) only[go_sem,ξ,ζ]
   refine caN (by exact k2) ?_;rintro _ h1 _ f1;obtain⟨_,_,_,_,_,_,_,rfl,f1⟩:=f1.sa
   try simp(maxSteps:=999999) (disch:=omega) only[go_sem,ξ,ζ]
   exact⟨_,_,_,_,_,_,rfl,Qr.none _,f1.to⟩
 | false=>
  cases u with
  | true=>
   refine Spec.go [] Tryz.func35 rfl rfl (by kernel_rfl) fun C _=>?_
   try simp(maxSteps:=999999) (disch:=omega) only[go_sem,ξ,ζ]
   refine caN (by exact k1) ?_;rintro _ h1 _ f1;obtain⟨_,_,_,_,_,_,_,rfl,f1⟩:=f1.sa
   try simp(maxSteps:=999999) (disch:=omega) only[go_sem,ξ,ζ]
   exact⟨_,_,_,_,_,_,rfl,f1.to,Qr.none _⟩
  | false=>
   by_cases hlt:q2 < q1
   ·have e1:0 < cmpQ q1 q2:=by unfold cmpQ;grind
    simp only[ordO,hlt,decide_true,Bool.not_true,cond_false]
    refine Spec.go [] Tryz.func35 rfl rfl (by kernel_rfl) fun C _=>?_
    try simp(maxSteps:=999999) (disch:=omega) only[go_sem,ξ,ζ]
    refine caN (by exact k1) ?_;rintro _ h1 _ f1;obtain⟨_,_,_,_,_,_,_,rfl,f1⟩:=f1.sa
    try simp(maxSteps:=999999) (disch:=omega) only[go_sem,ξ,ζ]
    refine caN (by exact k2) ?_;rintro _ h2 _ f2;obtain⟨_,_,_,_,_,_,_,rfl,f2⟩:=f2.sa
    try simp(maxSteps:=999999) (disch:=omega) only[go_sem,ξ,ζ]
    refine caN (by exact av (f1.to (h':=h2)) f2 (by omega) (by omega)) ?_;rintro v3 h3 s3 rfl
    try simp(maxSteps:=999999) (disch:=omega) only[go_sem,ξ,ζ]
    refine caN (by exact i6) ?_;rintro v4 h4 s4 hv4;obtain⟨_,_,_,_,_,_,_,_,_,_,_,_,_,_,rfl,t1,t2⟩:=hv4.sa
    try simp(maxSteps:=999999) (disch:=omega) only[go_sem,ξ,ζ]
    exact⟨_,_,_,_,_,_,rfl,t1.to,t2.to⟩
   ·have e1:¬0 < cmpQ q1 q2:=by unfold cmpQ;grind
    simp only[ordO,hlt,decide_false,Bool.not_false,cond_true]
    refine Spec.go [] Tryz.func35 rfl rfl (by kernel_rfl) fun C _=>?_
    try simp(maxSteps:=999999) (disch:=omega) only[go_sem,ξ,ζ]
    refine caN (by exact k1) ?_;rintro _ h1 _ f1;obtain⟨_,_,_,_,_,_,_,rfl,f1⟩:=f1.sa
    try simp(maxSteps:=999999) (disch:=omega) only[go_sem,ξ,ζ]
    refine caN (by exact k2) ?_;rintro _ h2 _ f2;obtain⟨_,_,_,_,_,_,_,rfl,f2⟩:=f2.sa
    try simp(maxSteps:=999999) (disch:=omega) only[go_sem,ξ,ζ]
    refine caN (by exact av (f1.to (h':=h2)) f2 (by omega) (by omega)) ?_;rintro v3 h3 s3 rfl
    try simp(maxSteps:=999999) (disch:=omega) only[go_sem,ξ,ζ]
    exact⟨_,_,_,_,_,_,rfl,f1.to,f2.to⟩
theorem jp {h0 h:PH} [Le h0 h] {v:Value} {x:NS} (hv:Rr h0 v x) (hf:x.le (2^36)):Spec mach 113 #[v] h (fun v h'=>Cv h' v x) NP:=by
 rw[NS.le_ends (by decide)] at hf
 obtain⟨_,_,_,_,_,_,_,_,_,_,_,_,_,_,rfl,t1,t2⟩:=hv.sa
 cases x with
 | e=>
  dsimp only[NS.void]
  refine Spec.go [(3,.o [0,1,3,4,6,7,8,9,2,5,10,11])] Tryz.func113 rfl rfl (by kernel_rfl) fun C _=>?_
  try simp(maxSteps:=999999) (disch:=omega) only[go_sem,ξ,ζ]
  refine caN (by exact aF (n:=1) (by decide) (by decide)) ?_;rintro _ h1 _ f1;obtain⟨_,_,_,_,_,_,_,rfl,f1⟩:=f1.sa
  try simp(maxSteps:=999999) (disch:=omega) only[go_sem,ξ,ζ]
  refine caN (by exact cA f1 (by decide)) ?_;rintro _ h2 _ f2;obtain⟨_,_,_,_,_,_,_,rfl,f2⟩:=f2.sa
  try simp(maxSteps:=999999) (disch:=omega) only[go_sem,ξ,ζ]
  exact⟨_,_,_,_,_,_,rfl,f2.to,Cn.zero _⟩
 | i a b=>
  dsimp only[NS.void,NS.loN,NS.hiN,NS.lo0,NS.hi0] at*
  refine Spec.go [(3,.o [0,1,3,4,6,7,8,9,2,5,10,11])] Tryz.func113 rfl rfl (by kernel_rfl) fun C _=>?_
  try simp(maxSteps:=999999) (disch:=omega) only[go_sem,ξ,ζ]
  refine caN (by exact cA t1 hf.1) ?_;rintro _ h1 _ f1;obtain⟨_,_,_,_,_,_,_,rfl,f1⟩:=f1.sa
  try simp(maxSteps:=999999) (disch:=omega) only[go_sem,ξ,ζ]
  refine caN (by exact cA t2 hf.2) ?_;rintro _ h2 _ f2;obtain⟨_,_,_,_,_,_,_,rfl,f2⟩:=f2.sa
  try simp(maxSteps:=999999) (disch:=omega) only[go_sem,ξ,ζ]
  exact⟨_,_,_,_,_,_,rfl,f1.to,f2.to⟩
theorem iI {h0 h:PH} [Le h0 h] {v:Value} {x:NS} (hv:Rr h0 v x):Spec mach 135 #[v] h (fun r h'=>Ir h' r (Out.fin (.ok x))) NP:=by
  have hv0:=hv
  obtain⟨_,_,_,_,_,_,_,_,_,_,_,_,_,_,rfl,t1,t2⟩:=hv.sa
  unfold Out.fin
  by_cases z1:sz x.lo0≤2048
  · by_cases z2:sz x.hi0≤2048
    · have hf:x.le 2048:=(NS.le_ends (by decide)).2 ⟨z1,z2⟩
      have e1:(decide (2048 < sz x.lo0))=false:=by simp;omega
      have e2:(decide (2048 < sz x.hi0))=false:=by simp;omega
      have o1:=fun {h} [Le h0 h]=>dh (h:=h) t1
      have o2:=fun {h} [Le h0 h]=>dh (h:=h) t2
      rw[e1] at o1
      rw[e2] at o2
      simp only[hf,decide_true,cond_true]
      refine Spec.go [] Tryz.func135 rfl rfl (by kernel_rfl) fun C _=>?_
      try simp(maxSteps:=999999) (disch:=omega) only[go_sem,ξ,ζ]
      refine caN (by exact o1) ?_;rintro v1 h1 s1 rfl
      try simp(maxSteps:=999999) (disch:=omega) only[go_sem,ξ,ζ]
      refine caN (by exact o2) ?_;rintro v2 h2 s2 rfl
      try simp(maxSteps:=999999) (disch:=omega) only[go_sem,ξ,ζ]
      refine caN (by exact jp hv0 (hf.up (by decide))) ?_;rintro _ h3 _ f3;obtain⟨_,_,_,_,_,_,_,_,_,_,_,_,_,_,_,_,rfl,f3⟩:=f3.sa
      try simp(maxSteps:=999999) (disch:=omega) only[go_sem,ξ,ζ]
      exact⟨_,rfl,f3⟩
    · have hf:¬x.le 2048:=fun k=>z2 ((NS.le_ends (by decide)).1 k).2
      have e1:(decide (2048 < sz x.lo0))=false:=by simp;omega
      have e2:(decide (2048 < sz x.hi0))=true:=by simp;omega
      have o1:=fun {h} [Le h0 h]=>dh (h:=h) t1
      have o2:=fun {h} [Le h0 h]=>dh (h:=h) t2
      rw[e1] at o1
      rw[e2] at o2
      simp only[hf,decide_false,cond_false]
      refine Spec.go [] Tryz.func135 rfl rfl (by kernel_rfl) fun C _=>?_
      try simp(maxSteps:=999999) (disch:=omega) only[go_sem,ξ,ζ]
      refine caN (by exact o1) ?_;rintro v1 h1 s1 rfl
      try simp(maxSteps:=999999) (disch:=omega) only[go_sem,ξ,ζ]
      refine caN (by exact o2) ?_;rintro v2 h2 s2 rfl
      try simp(maxSteps:=999999) (disch:=omega) only[go_sem,ξ,ζ]
      all_goals rfl
  · have hf:¬x.le 2048:=fun k=>z1 ((NS.le_ends (by decide)).1 k).1
    have e1:(decide (2048 < sz x.lo0))=true:=by simp;omega
    have o1:=fun {h} [Le h0 h]=>dh (h:=h) t1
    rw[e1] at o1
    simp only[hf,decide_false,cond_false]
    refine Spec.go [] Tryz.func135 rfl rfl (by kernel_rfl) fun C _=>?_
    try simp(maxSteps:=999999) (disch:=omega) only[go_sem,ξ,ζ]
    refine caN (by exact o1) ?_;rintro v1 h1 s1 rfl
    try simp(maxSteps:=999999) (disch:=omega) only[go_sem,ξ,ζ]
    all_goals rfl
theorem jb {h0 h:PH} [Le h0 h] {v:Value} {x:NS} {p:Int} (hv:Rr h0 v x) (hf:x.le (2^30)) (hp:0≤p∧p≤128):Spec mach 136 #[v,.int .i64 p] h (fun v h'=>Rr h' v (x.hull p.toNat)) NP:=by
 rw[NS.le_ends (by decide)] at hf
 obtain⟨_,_,_,_,_,_,_,_,_,_,_,_,_,_,rfl,t1,t2⟩:=hv.sa
 have k1:=fun {h} [Le h0 h]=>j9 (h:=h) (p:=p.toNat) t1 hf.1 (by omega)
 have k2:=fun {h} [Le h0 h]=>np (h:=h) (p:=p.toNat) t2 hf.2 (by omega)
 rw[show((p.toNat:Nat):Int)=p by omega] at k1 k2
 cases x with
 | e=>
  dsimp only[NS.void]
  refine Spec.go [] Tryz.func136 rfl rfl (by kernel_rfl) fun C _=>?_
  try simp(maxSteps:=999999) (disch:=omega) only[go_sem,ξ,ζ]
  exact⟨_,_,_,_,_,_,rfl,t1.to,t2.to⟩
 | i a b=>
  dsimp only[NS.void,NS.loN,NS.hiN,NS.lo0,NS.hi0] at*
  cases a with
  | none=>
   cases b with
   | none=>
    dsimp only[Option.isNone,Option.getD] at*
    refine Spec.go [] Tryz.func136 rfl rfl (by kernel_rfl) fun C _=>?_
    try simp(maxSteps:=999999) (disch:=omega) only[go_sem,ξ,ζ]
    exact⟨_,_,_,_,_,_,rfl,t1.to,t2.to⟩
   | some b=>
    dsimp only[Option.isNone,Option.getD] at*
    refine Spec.go [] Tryz.func136 rfl rfl (by kernel_rfl) fun C _=>?_
    try simp(maxSteps:=999999) (disch:=omega) only[go_sem,ξ,ζ]
    refine caN (by exact k2) ?_;rintro _ h2 _ f2;obtain⟨_,_,_,_,_,_,_,rfl,f2⟩:=f2.sa
    try simp(maxSteps:=999999) (disch:=omega) only[go_sem,ξ,ζ]
    exact⟨_,_,_,_,_,_,rfl,t1.to,f2.to⟩
  | some a=>
   cases b with
   | none=>
    dsimp only[Option.isNone,Option.getD] at*
    refine Spec.go [] Tryz.func136 rfl rfl (by kernel_rfl) fun C _=>?_
    try simp(maxSteps:=999999) (disch:=omega) only[go_sem,ξ,ζ]
    refine caN (by exact k1) ?_;rintro _ h1 _ f1;obtain⟨_,_,_,_,_,_,_,rfl,f1⟩:=f1.sa
    try simp(maxSteps:=999999) (disch:=omega) only[go_sem,ξ,ζ]
    exact⟨_,_,_,_,_,_,rfl,f1.to,t2.to⟩
   | some b=>
    dsimp only[Option.isNone,Option.getD] at*
    refine Spec.go [] Tryz.func136 rfl rfl (by kernel_rfl) fun C _=>?_
    try simp(maxSteps:=999999) (disch:=omega) only[go_sem,ξ,ζ]
    refine caN (by exact k1) ?_;rintro _ h1 _ f1;obtain⟨_,_,_,_,_,_,_,rfl,f1⟩:=f1.sa
    try simp(maxSteps:=999999) (disch:=omega) only[go_sem,ξ,ζ]
    refine caN (by exact k2) ?_;rintro _ h2 _ f2;obtain⟨_,_,_,_,_,_,_,rfl,f2⟩:=f2.sa
    try simp(maxSteps:=999999) (disch:=omega) only[go_sem,ξ,ζ]
    exact⟨_,_,_,_,_,_,rfl,f1.to,f2.to⟩
theorem eZ {h0 h:PH} [Le h0 h] {v:Value} {x:RI} (hv:Iv h0 v x):Spec mach 34 #[v] h (fun r _=>r=.bool x.big) NP:=by
 obtain⟨a1,m1,c1,a2,m2,c2,a3,m3,c3,a4,m4,c4,rfl,hx,hy⟩:=hv.sa
 have k1:=fun {h} [Le h0 h]=>jJ (h:=h) hx
 have k2:=fun {h} [Le h0 h]=>jJ (h:=h) hy
 unfold RI.big
 obtain⟨l1,e1⟩:∃b,decide (lg x.n1 x.a1 x.d1)=b:=⟨_,rfl⟩
 obtain⟨l2,e2⟩:∃b,decide (lg x.n2 x.a2 x.d2)=b:=⟨_,rfl⟩
 rw[e1] at k1 ⊢
 rw[e2] at k2 ⊢
 cases l1 with
 | true=>
  refine Spec.go [] Tryz.func34 rfl rfl (by kernel_rfl) fun C _=>?_
  try simp(maxSteps:=999999) (disch:=omega) only[go_sem,ξ,ζ]
  refine caN (by exact k1) ?_;rintro v1 h1 s1 rfl
  try simp(maxSteps:=999999) (disch:=omega) only[go_sem,ξ,ζ]
  all_goals rfl
 | false=>
  refine Spec.go [] Tryz.func34 rfl rfl (by kernel_rfl) fun C _=>?_
  try simp(maxSteps:=999999) (disch:=omega) only[go_sem,ξ,ζ]
  refine caN (by exact k1) ?_;rintro v1 h1 s1 rfl
  try simp(maxSteps:=999999) (disch:=omega) only[go_sem,ξ,ζ]
  refine caN (by exact k2) ?_;rintro v2 h2 s2 rfl
  try simp(maxSteps:=999999) (disch:=omega) only[go_sem,ξ,ζ]
def R1 (h:PH) (r:Value):Out→Prop
 |.error e=>r=.tuple #[.agg #[.bool false,.slice none 0 0,.slice none 0 0,.bool false,.slice none 0 0,.slice none 0 0,.bool false,.bool false,.bool false],.int .i64 e]
 |.ok x=>∃u,r=.tuple #[u,.int .i64 0]∧Rr h u x
theorem e8 {h0 h:PH} [Le h0 h] {v:Value} {x:RI} {p:Int} (hv:Iv h0 v x) (g:x.big=true):Spec mach 166 #[v,.int .i64 p] h (fun r h'=>R1 h' r (.error 1)) NP:=by
 have hv0:=hv
 have kl:=fun {h} [Le h0 h]=>eZ (h:=h) hv
 rw[g] at kl
 obtain⟨a1,m1,c1,a2,m2,c2,a3,m3,c3,a4,m4,c4,rfl,hx,hy⟩:=hv.sa
 refine Spec.go [] Tryz.func166 rfl rfl (by kernel_rfl) fun C _=>?_
 try simp(maxSteps:=999999) (disch:=omega) only[go_sem,ξ,ζ]
 refine caN (by exact kl) ?_;rintro v1 h1 s1 rfl
 try simp(maxSteps:=999999) (disch:=omega) only[go_sem,ξ,ζ]
 all_goals rfl
theorem R1.err {h:PH} {r:Value} {e:Int} (k:R1 h r (.error e)):r=.tuple #[.agg #[.bool false,.slice none 0 0,.slice none 0 0,.bool false,.slice none 0 0,.slice none 0 0,.bool false,.bool false,.bool false],.int .i64 e]:=k
theorem R1.ok {h:PH} {r:Value} {x:NS} (k:R1 h r (.ok x)):∃b1 a1 m1 c1 a2 m2 c2 b2 a3 m3 c3 a4 m4 c4,r=.tuple #[.agg #[.bool b1,.slice a1 m1 c1,.slice a2 m2 c2,.bool b2,.slice a3 m3 c3,.slice a4 m4 c4,.bool x.loN,.bool x.hiN,.bool x.void],.int .i64 0]∧Rr h (.agg #[.bool b1,.slice a1 m1 c1,.slice a2 m2 c2,.bool b2,.slice a3 m3 c3,.slice a4 m4 c4,.bool x.loN,.bool x.hiN,.bool x.void]) x:=by
 obtain⟨u,rfl,k⟩:=k
 have k0:=k
 obtain⟨_,_,_,_,_,_,_,_,_,_,_,_,_,_,rfl,_,_⟩:=k.sa
 exact⟨_,_,_,_,_,_,_,_,_,_,_,_,_,_,rfl,k0⟩
def okS (l:List Sd1) (i:Nat):Bool:=match l[i]? with
 | some x=>nameB x.1 && (decide (i=0) || (match l[i - 1]? with
  |some y=>Op.bytesLess y.1.toList x.1.toList
  |none=>true)) && !x.2.big && !x.2.set.void
 |none=>true
def okB (l:List Sd1):Bool:=decide (l.length≤6) && (List.range l.length).all (okS l)
theorem okB_no {l:List Sd1} {i:Nat} (hi:i < l.length) (h:okS l i=false):okB l=false:=by
 unfold okB
 rw[Bool.and_eq_false_iff]
 right
 exact List.all_eq_false.2 ⟨i,List.mem_range.2 hi,by rw[h];decide⟩
theorem okB_yes {l:List Sd1} (hl:l.length≤6) (h:∀j,j < l.length→okS l j=true):okB l=true:=by
 unfold okB
 rw[decide_eq_true hl,Bool.true_and]
 exact qBd.2 fun j hj=>h j (List.mem_range.1 hj)
theorem BValid_spec {h0 h:PH} [Le h0 h] {v:Value} {l:List Sd1} (hv:Boxv h0 v l):Spec mach 27 #[v] h (fun r _=>r=.bool (okB l)) NP:=by
  obtain⟨a,c,rfl,hl,k⟩:=hv
  by_cases h6:(l.length:Int) > 6
  · have:okB l=false:=by unfold okB;rw[decide_eq_false (by omega)];rfl
    rw[this]
    refine Spec.go [] Tryz.func27 rfl rfl (by kernel_rfl) fun C _=>?_
    try simp(maxSteps:=999999) (disch:=omega) only[go_sem,ξ,ζ,h6,decide_true]
  · refine Spec.go [] Tryz.func27 rfl rfl (by kernel_rfl) fun C _=>?_
    try simp(maxSteps:=999999) (disch:=omega) only[go_sem,ξ,ζ,h6,decide_false]
    refine lp [] (fun i:Nat=>⟨[(0,.v (.slice a l.length c)),(10,.v (.slice a l.length c)),(11,.v (.int .i64 l.length)),(12,.v (.int .i64 i))],[]⟩) (fun i h'=>Le h0 h'∧i≤l.length∧∀j,j < i→okS l j=true) (fun i=>l.length - i) 0 ?_ ⟨inferInstance,qBh _,fun j hj=>absurd hj (by omega)⟩ (by kernel_rfl) ?_
    · try simp(maxSteps:=999999) (disch:=omega) only[go_sem,ξ,ζ]
      all_goals rfl
    rintro i h2 ⟨le2,hi,hj⟩
    by_cases hlt:(i:Int) < l.length
    · obtain⟨x,hx⟩:∃x,l[i]?=some x:=⟨_,List.getElem?_eq_getElem (by omega)⟩
      obtain⟨ad,b1,a1,m1,c1,a2,m2,c2,b2,a3,m3,c3,a4,m4,c4,e,u,rfl,hat,hiv⟩:=k i x hx
      try simp(maxSteps:=999999) (disch:=omega) only[go_sem,ξ,ζ,hlt,decide_true]
      refine Exists.intro [_,_,_,_,_,_,_,_,_] (And.intro rfl (And.intro (fun j v hj=>le2.sub.at (hat j v hj)) ?_))
      try simp(maxSteps:=999999) (disch:=omega) only[go_sem,ξ,ζ]
      refine caN (by exact IsName_spec) ?_;rintro v3 h3 s3 rfl
      try simp(maxSteps:=999999) (disch:=omega) only[go_sem,ξ,ζ]
      have big:x.2.big=true→okS l i=false:=fun g=>by unfold okS;rw[hx];simp[g]
      have voi:x.2.set.void=true→okS l i=false:=fun g=>by unfold okS;rw[hx];simp[g]
      have nam:nameB x.1=false→okS l i=false:=fun g=>by unfold okS;rw[hx];simp[g]
      have hi':i < l.length:=by omega
      cases hn:nameB x.1 with
      | false=>
        rw[okB_no hi' (nam hn)]
        try simp(maxSteps:=999999) (disch:=omega) only[go_sem,ξ,ζ,hn]
      | true=>
        have kE:=fun {h} [Le h2 h]=>sI (h:=h) (hiv.to (h':=h2))
        unfold RI.bo at kE
        have nxt:(decide (i=0) || (match l[i - 1]? with |some y=>Op.bytesLess y.1.toList x.1.toList |none=>true))=true→x.2.big=false→x.2.set.void=false→okS l i=true:=fun g1 g2 g3=>by
          unfold okS;rw[hx]
          show(nameB x.1 && _ && _ && _)=true
          rw[hn,g1,g2,g3];rfl
        by_cases i0:(i:Int) > 0
        · obtain⟨y,hy⟩:∃y,l[i - 1]?=some y:=⟨_,List.getElem?_eq_getElem (by omega)⟩
          obtain⟨ad',_,_,_,_,_,_,_,_,_,_,_,_,_,_,_,_,ea,hat',_⟩:=k (i - 1) y hy
          cases ea
          have hyat:h0.at (ad.add ((i - 1)*9))=some (.string y.1):=hat' 0 _ rfl
          have ew:((i:Int) - 1).toNat=i - 1:=by omega
          try simp(maxSteps:=999999) (disch:=omega) only[go_sem,ξ,ζ,hn,i0,decide_true,ew]
          refine aE ((inferInstance:Le h0 h3).sub.at hyat) ?_
          try simp(maxSteps:=999999) (disch:=omega) only[go_sem,ξ,ζ]
          cases hB:Op.bytesLess y.1.toList x.1.toList with
          | false=>
            rw[okB_no hi' (by unfold okS;rw[hx];simp only[hy,hB];rw[decide_eq_false (by omega)];simp)]
            try simp(maxSteps:=999999) (disch:=omega) only[go_sem,ξ,ζ,hB]
          | true=>
            try simp(maxSteps:=999999) (disch:=omega) only[go_sem,ξ,ζ,hB]
            cases gb:x.2.big with
            | true=>
              rw[gb,cond_true] at kE
              rw[okB_no hi' (big gb)]
              refine caN (by exact kE) ?_;rintro v4 h4 s4 q4;obtain rfl:v4=_:=q4
              try simp(maxSteps:=999999) (disch:=omega) only[go_sem,ξ,ζ]
            | false =>
              rw[gb,cond_false] at kE
              cases gv:x.2.set.void with
              | true=>
                rw[gv] at kE
                rw[okB_no hi' (voi gv)]
                refine caN (by exact kE) ?_;rintro v4 h4 s4 q4;obtain rfl:v4=_:=q4
                try simp(maxSteps:=999999) (disch:=omega) only[go_sem,ξ,ζ]
              | false=>
                rw[gv] at kE
                refine caN (by exact kE) ?_;rintro v4 h4 s4 q4;obtain rfl:v4=_:=q4
                try simp(maxSteps:=999999) (disch:=omega) only[go_sem,ξ,ζ]
                dsimp only[lpE];refine⟨i+1,?_,⟨inferInstance,by omega,fun j k=>?_⟩,by omega⟩
                · try simp(maxSteps:=999999) (disch:=omega) only[go_sem,ξ,ζ]
                  all_goals rfl
                · rcases qBj j i with g |g
                  · exact hj j g
                  · obtain rfl:j=i:=by omega
                    exact nxt (by rw[hy];simp[hB]) gb gv
        · try simp(maxSteps:=999999) (disch:=omega) only[go_sem,ξ,ζ,hn,i0,decide_false]
          cases gb:x.2.big with
          | true=>
            rw[gb,cond_true] at kE
            rw[okB_no hi' (big gb)]
            refine caN (by exact kE) ?_;rintro v4 h4 s4 q4;obtain rfl:v4=_:=q4
            try simp(maxSteps:=999999) (disch:=omega) only[go_sem,ξ,ζ]
          | false =>
            rw[gb,cond_false] at kE
            cases gv:x.2.set.void with
            | true=>
              rw[gv] at kE
              rw[okB_no hi' (voi gv)]
              refine caN (by exact kE) ?_;rintro v4 h4 s4 q4;obtain rfl:v4=_:=q4
              try simp(maxSteps:=999999) (disch:=omega) only[go_sem,ξ,ζ]
            | false=>
              rw[gv] at kE
              refine caN (by exact kE) ?_;rintro v4 h4 s4 q4;obtain rfl:v4=_:=q4
              try simp(maxSteps:=999999) (disch:=omega) only[go_sem,ξ,ζ]
              dsimp only[lpE];refine⟨i+1,?_,⟨inferInstance,by omega,fun j k=>?_⟩,by omega⟩
              · try simp(maxSteps:=999999) (disch:=omega) only[go_sem,ξ,ζ]
                all_goals rfl
              · rcases qBj j i with g |g
                · exact hj j g
                · obtain rfl:j=i:=by omega
                  exact nxt (by rw[decide_eq_true (by omega)];rfl) gb gv
    · rw[okB_yes (by omega) (fun j k=>hj j (by omega))]
      try simp(maxSteps:=999999) (disch:=omega) only[go_sem,ξ,ζ,hlt,decide_false]


end Go.Q
