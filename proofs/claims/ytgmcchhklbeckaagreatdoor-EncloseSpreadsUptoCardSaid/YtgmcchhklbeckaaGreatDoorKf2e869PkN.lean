/-
  Contracts of package interval, and what stands on it. Conditions: each theorem's own.
-/
import Derived.Test.YtgmcchhklbeckaaGreatDoorK3550acPkG
import Derived.Test.YtgmcchhklbeckaaGreatDoorK8d17b0PkM
import Derived.Test.YtgmcchhklbeckaaGreatDoorK7c64e3PkL
import Derived.Test.YtgmcchhklbeckaaGreatDoorKf062ebPkI
import Derived.Test.YtgmcchhklbeckaaGreatDoorKf4937bPkC
set_option linter.unusedVariables false
set_option linter.unusedSimpArgs false
open Nat renaming reduceBEq→ξ,reduceAdd→ζ,le_trans→χ,mul_le_mul_right→ψ,le_refl→η,mul_le_mul→qAk,zero_le→qBh,lt_or_ge→qBj,one_mul→qBm
open Bool renaming and_eq_true→φ,false_eq_true→qAw
open List renaming length_append→qAp
open Rat renaming div_def→qAx
namespace Go.Q
open Go.Proofs
set_option maxRecDepth 100000
set_option maxHeartbeats 4000000
theorem px {x y:Rat} {k:Nat} (hx:sz x≤k) (hy:sz y≤k):sz (max x y)≤k:=by
 by_cases h:x < y
 ·rw[show max x y=y by grind];exact hy
 ·rw[show max x y=x by grind];exact hx
theorem py {x y:Rat} {k:Nat} (hx:sz x≤k) (hy:sz y≤k):sz (min x y)≤k:=by
 by_cases h:y < x
 ·rw[show min x y=y by grind];exact hy
 ·rw[show min x y=x by grind];exact hx
theorem up36 {n:Nat} (h:n≤2^30):n≤2^36:=by omega
def Sd (h:PH) (v:Value):NS→Prop
 |.e=>∃b1 x1 y1 b2 x2 y2 p q,v=.agg #[.bool b1,x1,y1,.bool b2,x2,y2,.bool false,.bool false,.bool true]∧En h b1 x1 y1 (some p)∧En h b2 x2 y2 (some q)∧sz p≤2^30∧sz q≤2^30
 |.i a b=>Sn h v (.i a b)
theorem Sd.sn {h:PH} {v:Value} {x:NS} (r:Sd h v x):Sn h v x:=by
 cases x with
 |i a b=>exact r
 |e=>obtain⟨b1,x1,y1,b2,x2,y2,p,q,rfl,h1,h2,_⟩:=r;exact⟨_,_,_,_,_,_,_,_,rfl,h1.junk,h2.junk⟩
theorem Sd.to {h h':PH} {v:Value} {x:NS} (r:Sd h v x) [Le h h']:Sd h' v x:=by
 cases x with
 |i a b=>exact Sn.to (x:=.i a b) r
 |e=>obtain⟨b1,x1,y1,b2,x2,y2,p,q,hv,h1,h2,k⟩:=r;exact⟨b1,x1,y1,b2,x2,y2,p,q,hv,h1.to,h2.to,k⟩
theorem Sd.ee {h:PH} {v:Value} (r:Sd h v .e):∃b1 a1 m1 c1 a2 m2 c2 b2 a3 m3 c3 a4 m4 c4 p q,v=.agg #[.bool b1,.slice a1 m1 c1,.slice a2 m2 c2,.bool b2,.slice a3 m3 c3,.slice a4 m4 c4,.bool false,.bool false,.bool true]∧
  En h b1 (.slice a1 m1 c1) (.slice a2 m2 c2) (some p)∧En h b2 (.slice a3 m3 c3) (.slice a4 m4 c4) (some q)∧sz p≤2^30∧sz q≤2^30:=by
 obtain⟨b1,x1,y1,b2,x2,y2,p,q,rfl,h1,h2,k⟩:=r
 obtain⟨_,_,_,_,_,_,rfl,rfl⟩:=h1.sl
 obtain⟨_,_,_,_,_,_,rfl,rfl⟩:=h2.sl
 exact⟨_,_,_,_,_,_,_,_,_,_,_,_,_,_,_,_,rfl,h1,h2,k⟩
theorem dK {h0 h:PH} [Le h0 h] {v:Value} {x:RI} (hv:Iv h0 v x) (g:x.big=false):Spec mach 47 #[v] h (fun v h'=>Sd h' v x.set) NP:=by
 obtain⟨g1,g2⟩:=RI.small g
 refine(wy hv g1 g2).mono (fun v h' _ r=>?_) (fun _ _ _ e=>e)
 rw[←RI.set_eq]
 have z1:sz (qof x.n1 x.a1 x.d1)≤2^30:=by unfold Go.Q.lg at g1;omega
 have z2:sz (qof x.n2 x.a2 x.d2)≤2^30:=by unfold Go.Q.lg at g2;omega
 obtain⟨b1,x1,y1,b2,x2,y2,rfl,h1,h2⟩:=r
 unfold rdS PS.n at*
 dsimp only at*
 cases hl:x.l with
 | true=>exact⟨b1,x1,y1,b2,x2,y2,by cases x.u<;>rfl,(En.of h1).junk,by cases x.u with
  |true=>exact(En.of h2).junk
  |false=>exact En.of h2⟩
 | false=>
  cases hu:x.u with
  |true=>exact⟨b1,x1,y1,b2,x2,y2,rfl,En.of h1,(En.of h2).junk⟩
  | false=>
   by_cases hc:qof x.n2 x.a2 x.d2 < qof x.n1 x.a1 x.d1
   ·simp only[hc,decide_true,Bool.not_false,Bool.and_true,cond_true]
    exact⟨b1,x1,y1,b2,x2,y2,_,_,rfl,En.of h1,En.of h2,z1,z2⟩
   ·simp only[hc,decide_false,Bool.and_false,cond_false]
    exact⟨b1,x1,y1,b2,x2,y2,rfl,En.of h1,En.of h2⟩
theorem sum_set {h0 h:PH} [Le h0 h] {v w:Value} {a b c d:Option Rat} (hs:Sn h0 v (.i a b)) (ht:Sn h0 w (.i c d)) (ls:(NS.i a b).le (2^30)) (lt:(NS.i c d).le (2^30)):
  Spec mach 175 #[v,w] h (fun v h'=>Sn h' v (NS.sum (.i a b) (.i c d))) NP:=by
 obtain⟨b1,a1,m1,c1,a2,m2,c2,b2,a3,m3,c3,a4,m4,c4,rfl,h1,h2⟩:=hs.ie
 obtain⟨b1',a1',m1',c1',a2',m2',c2',b2',a3',m3',c3',a4',m4',c4',rfl,h3,h4⟩:=ht.ie
 rw[NS.le_i] at ls lt
 cases a<;>cases c<;>cases b<;>cases d<;>
 ·dsimp only[Option.isNone]
  refine Spec.go [] Tryz.func175 rfl rfl (by kernel_rfl) fun C _=>?_
  try simp(maxSteps:=999999) (disch:=omega) only[go_sem,ξ,ζ]
  try (refine caN (by exact iV h1.num h3.num (up36 (ls.1 _ rfl)) (up36 (lt.1 _ rfl))) ?_;rintro _ g1 _ f1;obtain⟨_,_,_,_,_,_,_,rfl,f1⟩:=f1.sa;(try simp(maxSteps:=999999) (disch:=omega) only[go_sem,ξ,ζ]))
  try (refine caN (by exact iV h2.num h4.num (up36 (ls.2 _ rfl)) (up36 (lt.2 _ rfl))) ?_;rintro _ g2 _ f2;obtain⟨_,_,_,_,_,_,_,rfl,f2⟩:=f2.sa;(try simp(maxSteps:=999999) (disch:=omega) only[go_sem,ξ,ζ]))
  try simp(maxSteps:=999999) (disch:=omega) only[go_sem,ξ,ζ]
  exact⟨_,_,_,_,_,_,rfl,by first |exact(En.of f1).to |exact En.nil _,by first |exact(En.of f2).to |exact En.nil _⟩
theorem Fp {h0 h:PH} [Le h0 h] {v w:Value} {a b c d:Option Rat} (hs:Sn h0 v (.i a b)) (ht:Sn h0 w (.i c d)) (ls:(NS.i a b).le (2^30)) (lt:(NS.i c d).le (2^30)):
  Spec mach 235 #[v,w] h (fun v h'=>Sn h' v (NS.joined (.i a b) (.i c d))) NP:=by
 obtain⟨b1,a1,m1,c1,a2,m2,c2,b2,a3,m3,c3,a4,m4,c4,rfl,h1,h2⟩:=hs.ie
 obtain⟨b1',a1',m1',c1',a2',m2',c2',b2',a3',m3',c3',a4',m4',c4',rfl,h3,h4⟩:=ht.ie
 rw[NS.le_i] at ls lt
 cases a<;>cases c<;>cases b<;>cases d<;>
 ·dsimp only[Option.isNone]
  refine Spec.go [] Tryz.func235 rfl rfl (by kernel_rfl) fun C _=>?_
  try simp(maxSteps:=999999) (disch:=omega) only[go_sem,ξ,ζ]
  try (refine caN (by exact dP h1.num h3.num (up36 (ls.1 _ rfl)) (up36 (lt.1 _ rfl))) ?_;rintro _ g1 _ f1;obtain⟨_,_,_,_,_,_,_,rfl,f1⟩:=f1.sa;(try simp(maxSteps:=999999) (disch:=omega) only[go_sem,ξ,ζ]))
  try (refine caN (by exact cE h2.num h4.num (up36 (ls.2 _ rfl)) (up36 (lt.2 _ rfl))) ?_;rintro _ g2 _ f2;obtain⟨_,_,_,_,_,_,_,rfl,f2⟩:=f2.sa;(try simp(maxSteps:=999999) (disch:=omega) only[go_sem,ξ,ζ]))
  try simp(maxSteps:=999999) (disch:=omega) only[go_sem,ξ,ζ]
  exact⟨_,_,_,_,_,_,rfl,by first |exact(En.of f1).to |exact En.nil _,by first |exact(En.of f2).to |exact En.nil _⟩
theorem Jw {h0 h:PH} [Le h0 h] {v w:Value} {y:NS} (hs:Sn h0 v .e) (ht:Sn h0 w y):Spec mach 235 #[v,w] h (fun v h'=>Sn h' v y) NP:=by
 obtain⟨b1,a1,m1,c1,a2,m2,c2,b2,a3,m3,c3,a4,m4,c4,l,u,rfl,h1,h2⟩:=hs.ee
 obtain⟨b1',a1',m1',c1',a2',m2',c2',b2',a3',m3',c3',a4',m4',c4',l',u',rfl,ht⟩:=ht.sa
 refine Spec.go [] Tryz.func235 rfl rfl (by kernel_rfl) fun C _=>?_
 try simp(maxSteps:=999999) (disch:=omega) only[go_sem,ξ,ζ]
 exact ht.to
theorem Jx {h0 h:PH} [Le h0 h] {v w:Value} {a b:Option Rat} (hs:Sn h0 v (.i a b)) (ht:Sn h0 w .e):Spec mach 235 #[v,w] h (fun v h'=>Sn h' v (.i a b)) NP:=by
 obtain⟨b1,a1,m1,c1,a2,m2,c2,b2,a3,m3,c3,a4,m4,c4,l,u,rfl,hs⟩:=hs.sa
 obtain⟨b1',a1',m1',c1',a2',m2',c2',b2',a3',m3',c3',a4',m4',c4',l',u',rfl,h3,h4⟩:=ht.ee
 dsimp only[NS.void] at hs ⊢
 refine Spec.go [] Tryz.func235 rfl rfl (by kernel_rfl) fun C _=>?_
 try simp(maxSteps:=999999) (disch:=omega) only[go_sem,ξ,ζ]
 exact hs.to
theorem mS {h0 h:PH} [Le h0 h] {v w:Value} {x y:NS} (hs:Sn h0 v x) (ht:Sn h0 w y) (ls:x.le (2^30)) (lt:y.le (2^30)):Spec mach 235 #[v,w] h (fun v h'=>Sn h' v (x.joined y)) NP:=by
 cases x with
 |e=>exact Jw hs ht
 | i a b=>cases y with
  |e=>exact Jx hs ht
  |i c d=>exact Fp hs ht ls lt

theorem Le.tr {a b c:PH} (x:Le a b) (y:Le b c):Le a c:=⟨x.sub.trans y.sub⟩
theorem fG {h:PH} {b:Nat} {cs:List Value} (hb:h b=some cs.toArray) (j:Nat) (v:Value) (hj:cs[j]?=some v):h.at ⟨b,j,none⟩=some v:=by
 simp[PH.at,hb,hj]
theorem dG {h:PH} {b:Nat} {cs:List Value} (hb:h b=some cs.toArray) (j:Nat) (v:Value) (hj:cs[j]?=some v):h.at ((⟨b,0,none⟩:Addr).add j)=some v:=by
 cases j<;>simp[PH.at,Addr.add,hb,hj]
theorem aK {h:PH} {b:Nat} {v:Value} (hb:h b=some #[v]):h.at ⟨b,0,none⟩=some v:=by
 simp[PH.at,hb]
def zIv:Value:=.agg #[.bool false,.slice none 0 0,.slice none 0 0,.bool false,.slice none 0 0,.slice none 0 0,.bool false,.bool false]
theorem Cv.sa {h:PH} {v:Value} {x:NS} (r:Cv h v x):∃b1 a1 m1 c1 a2 m2 c2 b2 a3 m3 c3 a4 m4 c4 l u,v=.agg #[.bool b1,.slice a1 m1 c1,.slice a2 m2 c2,.bool b2,.slice a3 m3 c3,.slice a4 m4 c4,.bool l,.bool u]∧
  Cv h (.agg #[.bool b1,.slice a1 m1 c1,.slice a2 m2 c2,.bool b2,.slice a3 m3 c3,.slice a4 m4 c4,.bool l,.bool u]) x:=by
 have r0:=r
 obtain⟨b1,x1,y1,b2,x2,y2,rfl,h1,h2⟩:=r
 obtain⟨_,_,_,_,_,_,_,e1,_⟩:=h1.sa
 obtain⟨_,_,_,_,_,_,_,e2,_⟩:=h2.sa
 simp only[Value.agg.injEq,Array.mk.injEq,List.cons.injEq,and_true] at e1 e2
 obtain⟨_,rfl,rfl⟩:=e1
 obtain⟨_,rfl,rfl⟩:=e2
 exact⟨_,_,_,_,_,_,_,_,_,_,_,_,_,_,_,_,rfl,r0⟩
theorem Cv.eight {h:PH} {v:Value} {x:NS} (r:Cv h v x):∃r0 r1 r2 r3 r4 r5 r6 r7,v=.agg #[r0,r1,r2,r3,r4,r5,r6,r7]∧[r0,r1,r2,r3,r4,r5,r6,r7].all Value.oneCell'=true:=by
 obtain⟨_,_,_,_,_,_,_,_,_,_,_,_,_,_,_,_,rfl,_⟩:=r.sa
 exact⟨_,_,_,_,_,_,_,_,rfl,rfl⟩
def Ir (h:PH) (r:Value):Out→Prop
 |.error e=>r=.tuple #[zIv,.int .i64 e]
 |.ok x=>∃u,r=.tuple #[u,.int .i64 0]∧Cv h u x
theorem Ir.to {h h':PH} {r:Value} {o:Out} (k:Ir h r o) [Le h h']:Ir h' r o:=by
 cases o with
 |error e=>exact k
 |ok x=>obtain⟨u,e,c⟩:=k;exact⟨u,e,c.to⟩
theorem Ir.sa {h:PH} {r:Value} {o:Out} (k:Ir h r o):∃b1 a1 m1 c1 a2 m2 c2 b2 a3 m3 c3 a4 m4 c4 l u e,r=.tuple #[.agg #[.bool b1,.slice a1 m1 c1,.slice a2 m2 c2,.bool b2,.slice a3 m3 c3,.slice a4 m4 c4,.bool l,.bool u],.int .i64 e]∧
  Ir h (.tuple #[.agg #[.bool b1,.slice a1 m1 c1,.slice a2 m2 c2,.bool b2,.slice a3 m3 c3,.slice a4 m4 c4,.bool l,.bool u],.int .i64 e]) o:=by
 cases o with
 |error e=>cases(k:r=_);exact⟨_,_,_,_,_,_,_,_,_,_,_,_,_,_,_,_,_,rfl,rfl⟩
 | ok x=>
  obtain⟨u,rfl,c⟩:=k
  obtain⟨_,_,_,_,_,_,_,_,_,_,_,_,_,_,_,_,rfl,c⟩:=c.sa
  exact⟨_,_,_,_,_,_,_,_,_,_,_,_,_,_,_,_,_,rfl,_,rfl,c⟩
theorem Sd.sa {h:PH} {v:Value} {x:NS} (r:Sd h v x):∃b1 a1 m1 c1 a2 m2 c2 b2 a3 m3 c3 a4 m4 c4 l u,v=.agg #[.bool b1,.slice a1 m1 c1,.slice a2 m2 c2,.bool b2,.slice a3 m3 c3,.slice a4 m4 c4,.bool l,.bool u,.bool x.void]∧
  Sd h (.agg #[.bool b1,.slice a1 m1 c1,.slice a2 m2 c2,.bool b2,.slice a3 m3 c3,.slice a4 m4 c4,.bool l,.bool u,.bool x.void]) x:=by
 cases x with
 |e=>obtain⟨_,_,_,_,_,_,_,_,_,_,_,_,_,_,p,q,rfl,h1,h2,k⟩:=r.ee;exact⟨_,_,_,_,_,_,_,_,_,_,_,_,_,_,_,_,rfl,_,_,_,_,_,_,p,q,rfl,h1,h2,k⟩
 |i a b=>obtain⟨_,_,_,_,_,_,_,_,_,_,_,_,_,_,rfl,h1,h2⟩:=Sn.ie r;exact⟨_,_,_,_,_,_,_,_,_,_,_,_,_,_,_,_,rfl,_,_,_,_,_,_,rfl,h1,h2⟩
def Does (f:FuncId) (args:Array Value) (h:PH):Out→Prop
 |.ok x=>Spec mach f args h (fun v h'=>Sn h' v x) NP
 |.error e=>Spec mach f args h NR (fail e)
def Gives (f:FuncId) (args:Array Value) (h:PH):Out→Prop
 |.ok x=>Spec mach f args h (fun v h'=>Cv h' v x) NP
 |.error e=>Spec mach f args h NR (fail e)
theorem Does.ok {f:FuncId} {args:Array Value} {h:PH} {x:NS} (d:Does f args h (.ok x)):Spec mach f args h (fun v h'=>Sn h' v x) NP:=d
theorem Does.err {f:FuncId} {args:Array Value} {h:PH} {e:Int} (d:Does f args h (.error e)):Spec mach f args h NR (fail e):=d
def RI.fin (x:RI) (o:Out):Out:=bif x.big then .error 1 else o.fin
def RI.fin2 (x y:RI) (o:Out):Out:=bif x.big || y.big then .error 1 else o.fin
theorem HZ {h:PH} {f:FuncId} {cap:Array Value} {o:Out} (g:Gives f cap h o):Spec mach 205 #[.func (.func f) #[] cap] h (fun r h'=>Ir h' r o) NP:=by
 cases o with
 |ok x=>exact tryIv_ok g (fun v h' _ r=>⟨r.eight,v,rfl,r⟩)
 |error e=>exact F4 g (fun _ _=>rfl)
theorem Ea {h0 h:PH} [Le h0 h] {v:Value} {x:RI} {f:FuncId} {cap:Array Value} {b1 b2:Nat} {cs:List Value} {o:Out} (hv:Iv h0 v x) (hb1:h b1=some #[.func (.func f) #[] cap]) (hc:v=.agg cs.toArray) (hl:cs.length=8) (hb2:h b2=some cs.toArray)
  (hd:x.big=false→∀(h':PH) [Le h h'] (s:Value),Sd h' s x.set→Does f (s :: cap.toList).toArray h' o):
  Gives 206 #[.pointer (some ⟨b1,0,none⟩),.pointer (some ⟨b2,0,none⟩)] h (x.fin o):=by
 subst hc
 unfold RI.fin
 cases g:x.big with
 | true=>
  refine Spec.go [] Tryz.func206 rfl rfl (by kernel_rfl) fun C _=>?_
  try simp(disch:=omega) only[go_sem,ξ,ζ]
  refine aE (aK hb1) ?_
  try simp(disch:=omega) only[go_sem,ξ,ζ]
  refine dL cs hl (dG hb2) ?_
  try simp(disch:=omega) only[go_sem,ξ,ζ]
  exact caF (by exact fF hv g) (fun _ _ h=>h)
 | false=>
  have hd:=hd g
  dsimp only[cond_false]
  cases o with
  | error e=>
   refine Spec.go [] Tryz.func206 rfl rfl (by kernel_rfl) fun C _=>?_
   try simp(disch:=omega) only[go_sem,ξ,ζ]
   refine aE (aK hb1) ?_
   try simp(disch:=omega) only[go_sem,ξ,ζ]
   refine dL cs hl (dG hb2) ?_
   try simp(disch:=omega) only[go_sem,ξ,ζ]
   refine caN (by exact dK hv g) ?_;rintro s1 h1 st1 hs1
   try simp(disch:=omega) only[go_sem,ξ,ζ]
   exact caF (by exact(hd _ s1 hs1).err) (fun _ _ h=>h)
  | ok y=>
   dsimp only[Out.fin]
   by_cases hy:y.le 2048
   ·rw[decide_eq_true hy,cond_true]
    refine Spec.go [] Tryz.func206 rfl rfl (by kernel_rfl) fun C _=>?_
    try simp(disch:=omega) only[go_sem,ξ,ζ]
    refine aE (aK hb1) ?_
    try simp(disch:=omega) only[go_sem,ξ,ζ]
    refine dL cs hl (dG hb2) ?_
    try simp(disch:=omega) only[go_sem,ξ,ζ]
    refine caN (by exact dK hv g) ?_;rintro s1 h1 st1 hs1
    try simp(disch:=omega) only[go_sem,ξ,ζ]
    refine caN (by exact(hd _ s1 hs1).ok) ?_;rintro s2 h2 st2 hs2
    try simp(disch:=omega) only[go_sem,ξ,ζ]
    refine caN (by exact Ck hs2 hy) ?_;rintro v3 h3 st3 hv3;obtain⟨_,_,_,_,_,_,_,_,_,_,_,_,_,_,_,_,rfl,hv3⟩:=hv3.sa
    try simp(disch:=omega) only[go_sem,ξ,ζ]
    exact hv3
   ·rw[decide_eq_false hy,cond_false]
    refine Spec.go [] Tryz.func206 rfl rfl (by kernel_rfl) fun C _=>?_
    try simp(disch:=omega) only[go_sem,ξ,ζ]
    refine aE (aK hb1) ?_
    try simp(disch:=omega) only[go_sem,ξ,ζ]
    refine dL cs hl (dG hb2) ?_
    try simp(disch:=omega) only[go_sem,ξ,ζ]
    refine caN (by exact dK hv g) ?_;rintro s1 h1 st1 hs1
    try simp(disch:=omega) only[go_sem,ξ,ζ]
    refine caN (by exact(hd _ s1 hs1).ok) ?_;rintro s2 h2 st2 hs2
    try simp(disch:=omega) only[go_sem,ξ,ζ]
    exact caF (by exact ze hs2 hy) (fun _ _ h=>h)
theorem jX {h0 h:PH} [Le h0 h] {v:Value} {x:RI} {f:FuncId} {cap:Array Value} {o:Out} (hv:Iv h0 v x)
  (hd:x.big=false→∀(h':PH) [Le h h'] (s:Value),Sd h' s x.set→Does f (s :: cap.toList).toArray h' o):
  Spec mach 124 #[v,.func (.func f) #[] cap] h (fun r h'=>Ir h' r (x.fin o)) NP:=by
 have hv0:=hv
 obtain⟨a1,m1,c1,a2,m2,c2,a3,m3,c3,a4,m4,c4,rfl,_,_⟩:=hv.sa
 refine Spec.go [(1,.t (.p 0 (.p 1 (.s [0,1,2,3,4,5] .d))))] Tryz.func124 rfl rfl (by kernel_rfl) fun C _=>?_
 try simp(disch:=omega) only[go_sem,ξ,ζ]
 intro b2 h2 st2 hb2
 try simp(disch:=omega) only[go_sem,ξ,ζ]
 intro b1 h1 st1 hb1
 try simp(disch:=omega) only[go_sem,ξ,ζ]
 have hb1:=hb1 (by simp)
 have hb2:=st1.sub _ _ (hb2 (by simp))
 refine caN (by exact HZ (Ea (hv0.to (h':=h1)) hb1 rfl rfl hb2 (fun g h' i s hs=>@hd g h' (Le.tr inferInstance i) s hs))) ?_;rintro r3 h3 st3 hr3;obtain⟨_,_,_,_,_,_,_,_,_,_,_,_,_,_,_,_,_,rfl,hr3⟩:=hr3.sa
 try simp(disch:=omega) only[go_sem,ξ,ζ]
 exact hr3
theorem Db {h0 h:PH} [Le h0 h] {v w:Value} {x y:RI} {f:FuncId} {cap:Array Value} {b1 b2 b3:Nat} {cs ds:List Value} {o:Out} (hv:Iv h0 v x) (hw:Iv h0 w y) (hc:v=.agg cs.toArray) (hl:cs.length=8) (hb1:h b1=some cs.toArray) (hb2:h b2=some #[.func (.func f) #[] cap]) (hc':w=.agg ds.toArray) (hl':ds.length=8) (hb3:h b3=some ds.toArray)
  (hd:x.big=false→y.big=false→∀(h':PH) [Le h h'] (s t:Value),Sd h' s x.set→Sd h' t y.set→Does f (s :: t :: cap.toList).toArray h' o):
  Gives 236 #[.pointer (some ⟨b1,0,none⟩),.pointer (some ⟨b2,0,none⟩),.pointer (some ⟨b3,0,none⟩)] h (x.fin2 y o):=by
 subst hc
 subst hc'
 unfold RI.fin2
 cases g:x.big with
 | true=>
  refine Spec.go [] Tryz.func236 rfl rfl (by kernel_rfl) fun C _=>?_
  try simp(disch:=omega) only[go_sem,ξ,ζ]
  refine dL cs hl (dG hb1) ?_
  try simp(disch:=omega) only[go_sem,ξ,ζ]
  exact caF (by exact fF hv g) (fun _ _ h=>h)
 | false =>
  cases g':y.big with
  | true=>
   refine Spec.go [] Tryz.func236 rfl rfl (by kernel_rfl) fun C _=>?_
   try simp(disch:=omega) only[go_sem,ξ,ζ]
   refine dL cs hl (dG hb1) ?_
   try simp(disch:=omega) only[go_sem,ξ,ζ]
   refine caN (by exact dK hv g) ?_;rintro s1 h1 st1 hs1;obtain⟨_,_,_,_,_,_,_,_,_,_,_,_,_,_,_,_,rfl,hs1⟩:=hs1.sa
   try simp(disch:=omega) only[go_sem,ξ,ζ]
   refine aE (aK (st1.sub _ _ hb2)) ?_
   try simp(disch:=omega) only[go_sem,ξ,ζ]
   refine dL ds hl' (dG (st1.sub _ _ hb3)) ?_
   try simp(disch:=omega) only[go_sem,ξ,ζ]
   exact caF (by exact fF hw g') (fun _ _ h=>h)
  | false=>
   have hd:=hd g g'
   show Gives _ _ _ o.fin
   cases o with
   | error e=>
    refine Spec.go [] Tryz.func236 rfl rfl (by kernel_rfl) fun C _=>?_
    try simp(disch:=omega) only[go_sem,ξ,ζ]
    refine dL cs hl (dG hb1) ?_
    try simp(disch:=omega) only[go_sem,ξ,ζ]
    refine caN (by exact dK hv g) ?_;rintro s1 h1 st1 hs1;obtain⟨_,_,_,_,_,_,_,_,_,_,_,_,_,_,_,_,rfl,hs1⟩:=hs1.sa
    try simp(disch:=omega) only[go_sem,ξ,ζ]
    refine aE (aK (st1.sub _ _ hb2)) ?_
    try simp(disch:=omega) only[go_sem,ξ,ζ]
    refine dL ds hl' (dG (st1.sub _ _ hb3)) ?_
    try simp(disch:=omega) only[go_sem,ξ,ζ]
    refine caN (by exact dK hw g') ?_;rintro s2 h2 st2 hs2
    try simp(disch:=omega) only[go_sem,ξ,ζ]
    exact caF (by exact(hd _ _ s2 hs1.to hs2).err) (fun _ _ h=>h)
   | ok z=>
    dsimp only[Out.fin]
    by_cases hy:z.le 2048
    ·rw[decide_eq_true hy,cond_true]
     refine Spec.go [] Tryz.func236 rfl rfl (by kernel_rfl) fun C _=>?_
     try simp(disch:=omega) only[go_sem,ξ,ζ]
     refine dL cs hl (dG hb1) ?_
     try simp(disch:=omega) only[go_sem,ξ,ζ]
     refine caN (by exact dK hv g) ?_;rintro s1 h1 st1 hs1;obtain⟨_,_,_,_,_,_,_,_,_,_,_,_,_,_,_,_,rfl,hs1⟩:=hs1.sa
     try simp(disch:=omega) only[go_sem,ξ,ζ]
     refine aE (aK (st1.sub _ _ hb2)) ?_
     try simp(disch:=omega) only[go_sem,ξ,ζ]
     refine dL ds hl' (dG (st1.sub _ _ hb3)) ?_
     try simp(disch:=omega) only[go_sem,ξ,ζ]
     refine caN (by exact dK hw g') ?_;rintro s2 h2 st2 hs2
     try simp(disch:=omega) only[go_sem,ξ,ζ]
     refine caN (by exact(hd _ _ s2 hs1.to hs2).ok) ?_;rintro s3 h3 st3 hs3
     try simp(disch:=omega) only[go_sem,ξ,ζ]
     refine caN (by exact Ck hs3 hy) ?_;rintro v4 h4 st4 hv4;obtain⟨_,_,_,_,_,_,_,_,_,_,_,_,_,_,_,_,rfl,hv4⟩:=hv4.sa
     try simp(disch:=omega) only[go_sem,ξ,ζ]
     exact hv4
    ·rw[decide_eq_false hy,cond_false]
     refine Spec.go [] Tryz.func236 rfl rfl (by kernel_rfl) fun C _=>?_
     try simp(disch:=omega) only[go_sem,ξ,ζ]
     refine dL cs hl (dG hb1) ?_
     try simp(disch:=omega) only[go_sem,ξ,ζ]
     refine caN (by exact dK hv g) ?_;rintro s1 h1 st1 hs1;obtain⟨_,_,_,_,_,_,_,_,_,_,_,_,_,_,_,_,rfl,hs1⟩:=hs1.sa
     try simp(disch:=omega) only[go_sem,ξ,ζ]
     refine aE (aK (st1.sub _ _ hb2)) ?_
     try simp(disch:=omega) only[go_sem,ξ,ζ]
     refine dL ds hl' (dG (st1.sub _ _ hb3)) ?_
     try simp(disch:=omega) only[go_sem,ξ,ζ]
     refine caN (by exact dK hw g') ?_;rintro s2 h2 st2 hs2
     try simp(disch:=omega) only[go_sem,ξ,ζ]
     refine caN (by exact(hd _ _ s2 hs1.to hs2).ok) ?_;rintro s3 h3 st3 hs3
     try simp(disch:=omega) only[go_sem,ξ,ζ]
     exact caF (by exact ze hs3 hy) (fun _ _ h=>h)
theorem mV {h0 h:PH} [Le h0 h] {v w:Value} {x y:RI} {f:FuncId} {cap:Array Value} {o:Out} (hv:Iv h0 v x) (hw:Iv h0 w y)
  (hd:x.big=false→y.big=false→∀(h':PH) [Le h h'] (s t:Value),Sd h' s x.set→Sd h' t y.set→Does f (s :: t :: cap.toList).toArray h' o):
  Spec mach 171 #[v,w,.func (.func f) #[] cap] h (fun r h'=>Ir h' r (x.fin2 y o)) NP:=by
 have hv0:=hv
 have hw0:=hw
 obtain⟨a1,m1,c1,a2,m2,c2,a3,m3,c3,a4,m4,c4,rfl,_,_⟩:=hv.sa
 obtain⟨a1',m1',c1',a2',m2',c2',a3',m3',c3',a4',m4',c4',rfl,_,_⟩:=hw.sa
 refine Spec.go [(1,.t (.p 0 (.p 1 (.p 2 (.s [0,1,2,3,4,5] .d)))))] Tryz.func171 rfl rfl (by kernel_rfl) fun C _=>?_
 try simp(disch:=omega) only[go_sem,ξ,ζ]
 intro b1 h1 st1 hb1
 try simp(disch:=omega) only[go_sem,ξ,ζ]
 intro b3 h2 st2 hb3
 try simp(disch:=omega) only[go_sem,ξ,ζ]
 intro b2 h3 st3 hb2
 try simp(disch:=omega) only[go_sem,ξ,ζ]
 have hb2:=hb2 (by simp)
 have hb3:=st3.sub _ _ (hb3 (by simp))
 have hb1:=st3.sub _ _ (st2.sub _ _ (hb1 (by simp)))
 refine caN (by exact HZ (Db (hv0.to (h':=h3)) (hw0.to (h':=h3)) rfl rfl hb1 hb2 rfl rfl hb3 (fun g g' h' i s t hs ht=>@hd g g' h' (Le.tr inferInstance i) s t hs ht))) ?_;rintro r4 h4 st4 hr4;obtain⟨_,_,_,_,_,_,_,_,_,_,_,_,_,_,_,_,_,rfl,hr4⟩:=hr4.sa
 try simp(disch:=omega) only[go_sem,ξ,ζ]
 exact hr4
def bad (p:Int):Bool:=decide (p < 0) || decide (128 < p)
theorem jt {p:Int} (h:bad p=false):0≤p∧p≤128:=by
 unfold bad at h
 simp only[Bool.or_eq_false_iff,decide_eq_false_iff_not] at h
 omega
theorem i7 {p:Int} (h:bad p=true):p < 0∨128 < p:=by
 unfold bad at h
 simpa using h
def Out.prec (p:Int) (o:Out):Out:=bif bad p then .error 2 else o
theorem NS.le30 {x:NS} (h:x.le 2048):x.le (2^30):=h.up (by decide)
theorem RI.le30 {x:RI} (h:x.big=false):x.set.le (2^30):=NS.le30 (RI.le h)
theorem Ah {h0 h:PH} [Le h0 h] {v:Value} {x:NS} {p:Int} (hv:Sn h0 v x) (hf:x.le (2^30)) (hp:0≤p∧p≤128):
  Spec mach 127 #[v,.int .i64 p] h (fun v h'=>Sn h' v (x.hull p.toNat)) NP:=by
 have:=Hull_set (h:=h) (p:=p.toNat) hv hf (by omega)
 rwa[show((p.toNat:Nat):Int)=p by omega] at this
theorem Does.mk {f:FuncId} {args:Array Value} {h:PH} {x:NS} (s:Spec mach f args h (fun v h'=>Sn h' v x) NP):Does f args h (.ok x):=s
theorem Canon1 {h0 h:PH} [Le h0 h] {s:Value} {x:NS} (hs:Sd h0 s x):Does 232 #[s] h (.ok x):=by
 obtain⟨_,_,_,_,_,_,_,_,_,_,_,_,_,_,_,_,rfl,hs⟩:=hs.sa
 refine Spec.go [] Tryz.func232 rfl rfl (by kernel_rfl) fun C _=>?_
 try simp(disch:=omega) only[go_sem,ξ,ζ]
 exact hs.sn.to
theorem wN {h0 h:PH} [Le h0 h] {v:Value} {x:RI} (hv:Iv h0 v x):Spec mach 162 #[v] h (fun r h'=>Ir h' r (x.fin (.ok x.set))) NP:=by
 have hv0:=hv
 obtain⟨a1,m1,c1,a2,m2,c2,a3,m3,c3,a4,m4,c4,rfl,_,_⟩:=hv.sa
 refine Spec.go [] Tryz.func162 rfl rfl (by kernel_rfl) fun C _=>?_
 try simp(disch:=omega) only[go_sem,ξ,ζ]
 refine caN (by exact jX hv0 (fun _ h' _ s hs=>Canon1 hs)) ?_;rintro r3 h3 st3 hr3;obtain⟨_,_,_,_,_,_,_,_,_,_,_,_,_,_,_,_,_,rfl,hr3⟩:=hr3.sa
 try simp(disch:=omega) only[go_sem,ξ,ζ]
 exact hr3
theorem Round1 {h0 h:PH} [Le h0 h] {s:Value} {x:NS} {p:Int} {b:Nat} (hs:Sd h0 s x) (hf:x.le (2^30)) (hb:h b=some #[.int .i64 p]):Does 125 #[s,.pointer (some ⟨b,0,none⟩)] h (Out.prec p (.ok (x.hull p.toNat))):=by
 obtain⟨_,_,_,_,_,_,_,_,_,_,_,_,_,_,_,_,rfl,hs⟩:=hs.sa
 unfold Out.prec
 cases g:bad p with
 | true=>
  show Spec _ _ _ _ NR (fail 2)
  refine Spec.go [] Tryz.func125 rfl rfl (by kernel_rfl) fun C _=>?_
  try simp(disch:=omega) only[go_sem,ξ,ζ]
  refine aE (aK hb) ?_
  try simp(disch:=omega) only[go_sem,ξ,ζ]
  exact caF (by exact iN (i7 g)) (fun _ _ h=>h)
 | false=>
  show Spec _ _ _ _ _ NP
  have hp:=jt g
  refine Spec.go [] Tryz.func125 rfl rfl (by kernel_rfl) fun C _=>?_
  try simp(disch:=omega) only[go_sem,ξ,ζ]
  refine aE (aK hb) ?_
  try simp(disch:=omega) only[go_sem,ξ,ζ]
  refine caN (by exact aU hp.1 hp.2) ?_;rintro v1 h1 st1 _
  try simp(disch:=omega) only[go_sem,ξ,ζ]
  refine aE (aK (st1.sub _ _ hb)) ?_
  try simp(disch:=omega) only[go_sem,ξ,ζ]
  refine caN (by exact Ah hs.sn hf hp) ?_;rintro s2 h2 st2 hs2;obtain⟨_,_,_,_,_,_,_,_,_,_,_,_,_,_,_,_,rfl,hs2⟩:=hs2.sa
  try simp(disch:=omega) only[go_sem,ξ,ζ]
  exact hs2
theorem du {h0 h:PH} [Le h0 h] {v:Value} {x:RI} {p:Int} (hv:Iv h0 v x):Spec mach 66 #[v,.int .i64 p] h (fun r h'=>Ir h' r (x.fin (Out.prec p (.ok (x.set.hull p.toNat))))) NP:=by
 have hv0:=hv
 obtain⟨a1,m1,c1,a2,m2,c2,a3,m3,c3,a4,m4,c4,rfl,_,_⟩:=hv.sa
 refine Spec.go [(1,.t (.p 1 (.s [0,1,2,3,4,5,6] .d)))] Tryz.func66 rfl rfl (by kernel_rfl) fun C _=>?_
 try simp(disch:=omega) only[go_sem,ξ,ζ]
 intro b h1 st1 hb
 try simp(disch:=omega) only[go_sem,ξ,ζ]
 have hb:=hb (by simp)
 refine caN (by exact jX (hv0.to (h':=h1)) (fun g h' i s hs=>Round1 hs (RI.le30 g) (i.sub _ _ hb))) ?_;rintro r3 h3 st3 hr3;obtain⟨_,_,_,_,_,_,_,_,_,_,_,_,_,_,_,_,_,rfl,hr3⟩:=hr3.sa
 try simp(disch:=omega) only[go_sem,ξ,ζ]
 exact hr3
theorem Iv.mk {h:PH} {b b':Bool} {x y x' y':Value} {n1 n2:Bool} {a1 d1 a2 d2:Nat} (hv:Rw h (.agg #[.bool b,x,y]) n1 a1 d1) (hw:Rw h (.agg #[.bool b',x',y']) n2 a2 d2) (l u:Bool):Iv h (.agg #[.bool b,x,y,.bool b',x',y',.bool l,.bool u]) ⟨n1,a1,d1,n2,a2,d2,l,u⟩:=by
 have e1:=hv
 have e2:=hw
 obtain⟨_,_,_,_,_,_,e1,_⟩:=e1
 obtain⟨_,_,_,_,_,_,e2,_⟩:=e2
 simp only[Value.agg.injEq,Array.mk.injEq,List.cons.injEq,and_true,Value.bool.injEq] at e1 e2
 obtain⟨rfl,_,_⟩:=e1
 obtain⟨rfl,_,_⟩:=e2
 exact⟨_,_,_,_,rfl,hv,hw⟩
theorem oK {h0 h:PH} [Le h0 h] {v w:Value} {n1 n2:Bool} {a1 d1 a2 d2:Nat} (hv:Rw h0 v n1 a1 d1) (hw:Rw h0 w n2 a2 d2):
  Spec mach 98 #[v,w] h (fun r h'=>Ir h' r (RI.fin ⟨n1,a1,d1,n2,a2,d2,false,false⟩ (.ok (RI.set ⟨n1,a1,d1,n2,a2,d2,false,false⟩)))) NP:=by
 obtain⟨_,_,_,_,_,_,_,rfl,hv⟩:=hv.sa
 obtain⟨_,_,_,_,_,_,_,rfl,hw⟩:=hw.sa
 refine Spec.go [] Tryz.func98 rfl rfl (by kernel_rfl) fun C _=>?_
 try simp(disch:=omega) only[go_sem,ξ,ζ]
 refine caN (by exact wN (Iv.mk hv hw false false)) ?_;rintro _ h3 _ hr3;obtain⟨_,_,_,_,_,_,_,_,_,_,_,_,_,_,_,_,_,rfl,hr3⟩:=hr3.sa
 try simp(disch:=omega) only[go_sem,ξ,ζ]
 exact hr3
theorem EE {h0 h:PH} [Le h0 h] {v:Value} {n1:Bool} {a1 d1:Nat} (hv:Rw h0 v n1 a1 d1):
  Spec mach 61 #[v] h (fun r h'=>Ir h' r (RI.fin ⟨n1,a1,d1,n1,a1,d1,false,false⟩ (.ok (RI.set ⟨n1,a1,d1,n1,a1,d1,false,false⟩)))) NP:=by
 obtain⟨_,_,_,_,_,_,_,rfl,hv⟩:=hv.sa
 refine Spec.go [] Tryz.func61 rfl rfl (by kernel_rfl) fun C _=>?_
 try simp(disch:=omega) only[go_sem,ξ,ζ]
 refine caN (by exact oK hv hv) ?_;rintro _ h3 _ hr3;obtain⟨_,_,_,_,_,_,_,_,_,_,_,_,_,_,_,_,_,rfl,hr3⟩:=hr3.sa
 try simp(disch:=omega) only[go_sem,ξ,ζ]
 exact hr3
theorem NS.le.minus {x:NS} {k:Nat} (h:x.le k):x.minus.le k:=by
 cases x with
 |e=>exact h
 | i a b=>
  rw[NS.le_i] at h
  show NS.le k (.i (b.map (-·)) (a.map (-·)))
  rw[NS.le_i]
  refine⟨fun q e=>?_,fun q e=>?_⟩
  ·cases b with
   |none=>cases e
   |some b=>cases e;rw[cz];exact h.2 _ rfl
  ·cases a with
   |none=>cases e
   |some a=>cases e;rw[cz];exact h.1 _ rfl
def rnd (p:Int) (x y:NS) (o:Out):Out:=Out.prec p (bif x.void || y.void then .ok .e else match o with |.error e=>.error e |.ok z=>.ok (z.hull p.toNat))
theorem yW {h0 h:PH} [Le h0 h] {s t:Value} {x y:NS} {p:Int} {f:FuncId} {cap:Array Value} {b1 b2:Nat} {o:Out} (hs:Sd h0 s x) (ht:Sd h0 t y) (hb1:h b1=some #[.int .i64 p]) (hb2:h b2=some #[.func (.func f) #[] cap])
  (hd:x.void=false→y.void=false→∀(h':PH) [Le h h'] (s t:Value),Sd h' s x→Sd h' t y→Does f (s :: t :: cap.toList).toArray h' o) (hl:∀z,o=.ok z→z.le (2^30)):
  Does 237 #[s,t,.pointer (some ⟨b1,0,none⟩),.pointer (some ⟨b2,0,none⟩)] h (rnd p x y o):=by
 obtain⟨_,_,_,_,_,_,_,_,_,_,_,_,_,_,_,_,rfl,hs⟩:=hs.sa
 obtain⟨_,_,_,_,_,_,_,_,_,_,_,_,_,_,_,_,rfl,ht⟩:=ht.sa
 unfold rnd Out.prec
 cases g:bad p with
 | true=>
  show Spec _ _ _ _ NR (fail 2)
  refine Spec.go [(4,.o [0,1,2,4,3,5,6])] Tryz.func237 rfl rfl (by kernel_rfl) fun C _=>?_
  try simp(disch:=omega) only[go_sem,ξ,ζ]
  refine aE (aK hb1) ?_
  try simp(disch:=omega) only[go_sem,ξ,ζ]
  exact caF (by exact iN (i7 g)) (fun _ _ h=>h)
 | false =>
  have hp:=jt g
  dsimp only[cond_false]
  cases gx:x.void with
  | true=>
   rw[gx] at hs
   show Spec _ _ _ _ _ NP
   refine Spec.go [(4,.o [0,1,2,4,3,5,6])] Tryz.func237 rfl rfl (by kernel_rfl) fun C _=>?_
   try simp(disch:=omega) only[go_sem,ξ,ζ]
   refine aE (aK hb1) ?_
   try simp(disch:=omega) only[go_sem,ξ,ζ]
   refine caN (by exact aU hp.1 hp.2) ?_;rintro v1 h1 st1 _
   try simp(disch:=omega) only[go_sem,ξ,ζ]
   exact⟨_,_,_,_,_,_,_,_,rfl,En.nil _,En.nil _⟩
  | false=>
   rw[gx] at hs
   cases gy:y.void with
   | true=>
    rw[gy] at ht
    show Spec _ _ _ _ _ NP
    refine Spec.go [(4,.o [0,1,2,4,3,5,6])] Tryz.func237 rfl rfl (by kernel_rfl) fun C _=>?_
    try simp(disch:=omega) only[go_sem,ξ,ζ]
    refine aE (aK hb1) ?_
    try simp(disch:=omega) only[go_sem,ξ,ζ]
    refine caN (by exact aU hp.1 hp.2) ?_;rintro v1 h1 st1 _
    try simp(disch:=omega) only[go_sem,ξ,ζ]
    exact⟨_,_,_,_,_,_,_,_,rfl,En.nil _,En.nil _⟩
   | false=>
    rw[gy] at ht
    have hd:=hd gx gy
    cases o with
    | error e=>
     show Spec _ _ _ _ NR (fail e)
     refine Spec.go [(4,.o [0,1,2,4,3,5,6])] Tryz.func237 rfl rfl (by kernel_rfl) fun C _=>?_
     try simp(disch:=omega) only[go_sem,ξ,ζ]
     refine aE (aK hb1) ?_
     try simp(disch:=omega) only[go_sem,ξ,ζ]
     refine caN (by exact aU hp.1 hp.2) ?_;rintro v1 h1 st1 _
     try simp(disch:=omega) only[go_sem,ξ,ζ]
     refine aE (aK (st1.sub _ _ hb2)) ?_
     try simp(disch:=omega) only[go_sem,ξ,ζ]
     refine aE (aK (st1.sub _ _ hb1)) ?_
     try simp(disch:=omega) only[go_sem,ξ,ζ]
     exact caF (by exact(hd _ _ _ hs.to ht.to).err) (fun _ _ h=>h)
    | ok z=>
     show Spec _ _ _ _ _ NP
     refine Spec.go [(4,.o [0,1,2,4,3,5,6])] Tryz.func237 rfl rfl (by kernel_rfl) fun C _=>?_
     try simp(disch:=omega) only[go_sem,ξ,ζ]
     refine aE (aK hb1) ?_
     try simp(disch:=omega) only[go_sem,ξ,ζ]
     refine caN (by exact aU hp.1 hp.2) ?_;rintro v1 h1 st1 _
     try simp(disch:=omega) only[go_sem,ξ,ζ]
     refine aE (aK (st1.sub _ _ hb2)) ?_
     try simp(disch:=omega) only[go_sem,ξ,ζ]
     refine aE (aK (st1.sub _ _ hb1)) ?_
     try simp(disch:=omega) only[go_sem,ξ,ζ]
     refine caN (by exact(hd _ _ _ hs.to ht.to).ok) ?_;rintro v2 h2 st2 hv2
     try simp(disch:=omega) only[go_sem,ξ,ζ]
     refine caN (by exact Ah hv2 (hl _ rfl) hp) ?_;rintro _ h3 _ hv3;obtain⟨_,_,_,_,_,_,_,_,_,_,_,_,_,_,_,_,rfl,hv3⟩:=hv3.sa
     try simp(disch:=omega) only[go_sem,ξ,ζ]
     exact hv3
theorem mC {h0 h:PH} [Le h0 h] {v w:Value} {x y:RI} {p:Int} {f:FuncId} {cap:Array Value} {o:Out} (hv:Iv h0 v x) (hw:Iv h0 w y)
  (hd:x.big=false→y.big=false→x.set.void=false→y.set.void=false→∀(h':PH) [Le h h'] (s t:Value),Sd h' s x.set→Sd h' t y.set→Does f (s :: t :: cap.toList).toArray h' o) (hl:x.big=false→y.big=false→∀z,o=.ok z→z.le (2^30)):
  Spec mach 174 #[v,w,.int .i64 p,.func (.func f) #[] cap] h (fun r h'=>Ir h' r (x.fin2 y (rnd p x.set y.set o))) NP:=by
 have hv0:=hv
 have hw0:=hw
 obtain⟨a1,m1,c1,a2,m2,c2,a3,m3,c3,a4,m4,c4,rfl,_,_⟩:=hv.sa
 obtain⟨a1',m1',c1',a2',m2',c2',a3',m3',c3',a4',m4',c4',rfl,_,_⟩:=hw.sa
 refine Spec.go [(1,.t (.p 2 (.p 3 (.s [0,1,2,3,4,5,6,7] .d))))] Tryz.func174 rfl rfl (by kernel_rfl) fun C _=>?_
 try simp(disch:=omega) only[go_sem,ξ,ζ]
 intro b1 h1 st1 hb1
 try simp(disch:=omega) only[go_sem,ξ,ζ]
 intro b2 h2 st2 hb2
 try simp(disch:=omega) only[go_sem,ξ,ζ]
 have hb2:=hb2 (by simp)
 have hb1:=st2.sub _ _ (hb1 (by simp))
 refine caN (by exact mV (hv0.to (h':=h2)) (hw0.to (h':=h2)) (fun g g' h' i s t hs ht=>yW hs ht (i.sub _ _ hb1) (i.sub _ _ hb2) (fun k k' h'' i' s t hs ht=>@hd g g' k k' h'' (Le.tr (Le.tr inferInstance i) i') s t hs ht) (hl g g'))) ?_;rintro _ h4 _ hr4;obtain⟨_,_,_,_,_,_,_,_,_,_,_,_,_,_,_,_,_,rfl,hr4⟩:=hr4.sa
 try simp(disch:=omega) only[go_sem,ξ,ζ]
 exact hr4
theorem NS.le.sum {x y:NS} (hx:x.le 2048) (hy:y.le 2048):(x.sum y).le (2^30):=by
  cases x with
  |e=>rfl
  | i a b =>cases y with
    |e=>rfl
    | i c d =>
      rw[NS.le_i] at hx hy
      show NS.le _ (.i (oadd a c) (oadd b d))
      rw[NS.le_i]
      refine⟨fun q e=>?_,fun q e=>?_⟩
      · cases a with
        |none=>cases e
        | some a=>cases c with
          |none=>cases e
          | some c=>
            cases e
            have:=dA a c
            have:=hx.1 _ rfl
            have:=hy.1 _ rfl
            omega
      · cases b with
        |none=>cases e
        | some b=>cases d with
          |none=>cases e
          | some d=>
            cases e
            have:=dA b d
            have:=hx.2 _ rfl
            have:=hy.2 _ rfl
            omega
theorem Sum1 {h0 h:PH} [Le h0 h] {s t:Value} {x y:NS} (hs:Sn h0 s x) (ht:Sn h0 t y) (gx:x.void=false) (gy:y.void=false) (lx:x.le (2^30)) (ly:y.le (2^30)):Spec mach 175 #[s,t] h (fun v h'=>Sn h' v (x.sum y)) NP:=by
 cases x with
 |e=>cases gx
 | i a b=>cases y with
  |e=>cases gy
  |i c d=>exact sum_set hs ht lx ly
theorem Gb (x:NS):x.minus.void=x.void:=by cases x<;>rfl
theorem Sub1 {h0 h:PH} [Le h0 h] {s t:Value} {x y:NS} (hs:Sn h0 s x) (ht:Sn h0 t y) (gx:x.void=false) (gy:y.void=false) (lx:x.le (2^30)) (ly:y.le (2^30)):Spec mach 176 #[s,t] h (fun v h'=>Sn h' v (x.sum y.minus)) NP:=by
 obtain⟨_,_,_,_,_,_,_,_,_,_,_,_,_,_,_,_,rfl,hs⟩:=hs.sa
 obtain⟨_,_,_,_,_,_,_,_,_,_,_,_,_,_,_,_,rfl,ht⟩:=ht.sa
 refine Spec.go [] Tryz.func176 rfl rfl (by kernel_rfl) fun C _=>?_
 try simp(maxSteps:=999999) (disch:=omega) only[go_sem,ξ,ζ]
 refine caN (by exact jK ht) ?_;rintro v1 h1 st1 hv1
 try simp(maxSteps:=999999) (disch:=omega) only[go_sem,ξ,ζ]
 refine caN (by exact Sum1 (hs.to (h':=h1)) hv1 gx (by rw[Gb];exact gy) lx ly.minus) ?_;rintro _ h2 _ hv2;obtain⟨_,_,_,_,_,_,_,_,_,_,_,_,_,_,_,_,rfl,hv2⟩:=hv2.sa
 try simp(maxSteps:=999999) (disch:=omega) only[go_sem,ξ,ζ]
 exact hv2
theorem jf {h0 h:PH} [Le h0 h] {v w:Value} {x y:RI} {p:Int} (hv:Iv h0 v x) (hw:Iv h0 w y):Spec mach 104 #[v,w,.int .i64 p] h (fun r h'=>Ir h' r (x.fin2 y (rnd p x.set y.set (.ok (x.set.sum y.set))))) NP:=by
 have hv0:=hv
 have hw0:=hw
 obtain⟨a1,m1,c1,a2,m2,c2,a3,m3,c3,a4,m4,c4,rfl,_,_⟩:=hv.sa
 obtain⟨a1',m1',c1',a2',m2',c2',a3',m3',c3',a4',m4',c4',rfl,_,_⟩:=hw.sa
 refine Spec.go [] Tryz.func104 rfl rfl (by kernel_rfl) fun C _=>?_
 try simp(maxSteps:=999999) (disch:=omega) only[go_sem,ξ,ζ]
 refine caN (by exact mC hv0 hw0 (fun g g' k k' h' _ s t hs ht=>Does.mk (Sum1 hs.sn ht.sn k k' (RI.le30 g) (RI.le30 g'))) (fun g g' z e=>by cases e;exact NS.le.sum (RI.le g) (RI.le g'))) ?_;rintro _ h3 _ hr3;obtain⟨_,_,_,_,_,_,_,_,_,_,_,_,_,_,_,_,_,rfl,hr3⟩:=hr3.sa
 try simp(maxSteps:=999999) (disch:=omega) only[go_sem,ξ,ζ]
 exact hr3
theorem qA {h0 h:PH} [Le h0 h] {v w:Value} {x y:RI} {p:Int} (hv:Iv h0 v x) (hw:Iv h0 w y):Spec mach 105 #[v,w,.int .i64 p] h (fun r h'=>Ir h' r (x.fin2 y (rnd p x.set y.set (.ok (x.set.sum y.set.minus))))) NP:=by
 have hv0:=hv
 have hw0:=hw
 obtain⟨a1,m1,c1,a2,m2,c2,a3,m3,c3,a4,m4,c4,rfl,_,_⟩:=hv.sa
 obtain⟨a1',m1',c1',a2',m2',c2',a3',m3',c3',a4',m4',c4',rfl,_,_⟩:=hw.sa
 refine Spec.go [] Tryz.func105 rfl rfl (by kernel_rfl) fun C _=>?_
 try simp(maxSteps:=999999) (disch:=omega) only[go_sem,ξ,ζ]
 refine caN (by exact mC hv0 hw0 (fun g g' k k' h' _ s t hs ht=>Does.mk (Sub1 hs.sn ht.sn k k' (RI.le30 g) (RI.le30 g'))) (fun g g' z e=>by cases e;exact NS.le.sum (RI.le g) (NS.le.minus (RI.le g')))) ?_;rintro _ h3 _ hr3;obtain⟨_,_,_,_,_,_,_,_,_,_,_,_,_,_,_,_,_,rfl,hr3⟩:=hr3.sa
 try simp(maxSteps:=999999) (disch:=omega) only[go_sem,ξ,ζ]
 exact hr3
namespace NS
theorem has_i {a b:Option Rat} {q:Rat}:(NS.i a b).has q=true↔(∀x,a=some x→x≤q)∧(∀x,b=some x→q≤x):=by
 cases a<;>cases b<;>simp[has]<;>grind
theorem ne_has {a b:Option Rat} (h:ordO a b=true):∃q,(NS.i a b).has q=true:=by
 cases a with
 | none=>cases b with
  |none=>exact⟨0,by simp[has]⟩
  |some b=>exact⟨b,by simp[has]<;>grind⟩
 | some a=>cases b with
  |none=>exact⟨a,by simp[has]<;>grind⟩
  |some b=>exact⟨a,by simp[ordO] at h;simp[has];grind⟩
theorem low_has {b:Option Rat} (c:Rat):∃q,q < c∧(NS.i none b).has q=true:=by
 cases b with
 |none=>exact⟨c - 1,by grind,by simp[has]⟩
 |some b=>exact⟨min (c - 1) b,by grind,by simp[has]<;>grind⟩
theorem high_has {a:Option Rat} (c:Rat):∃q,c < q∧(NS.i a none).has q=true:=by
 cases a with
 |none=>exact⟨c+1,by grind,by simp[has]⟩
 |some a=>exact⟨max (c+1) a,by grind,by simp[has]<;>grind⟩
theorem lo_has {a:Rat} {b:Option Rat} (h:ordO (some a) b=true):(NS.i (some a) b).has a=true:=by
 cases b with
 |none=>simp[has]<;>grind
 |some b=>simp[ordO] at h;simp[has];grind
theorem hi_has {a:Option Rat} {b:Rat} (h:ordO a (some b)=true):(NS.i a (some b)).has b=true:=by
 cases a with
 |none=>simp[has]<;>grind
 |some a=>simp[ordO] at h;simp[has];grind
theorem within_iff {x y:NS} (hx:x.ok):x.within y=true↔∀q,x.has q=true→y.has q=true:=by
 cases x with
 |e=>simp[within,has]
 | i a b =>
  cases y with
  | e=>
   obtain⟨q,hq⟩:=ne_has hx
   simp only[within,has,qAw,false_iff]
   exact fun h=>h q hq
  | i c d =>
   constructor
   ·intro h q hq
    rw[has_i] at hq ⊢
    cases a<;>cases b<;>cases c<;>cases d<;>simp[within,lowIn,highIn] at h hq ⊢<;>grind
   ·intro h
    have h1:lowIn c a=true:=by
     cases c with
     |none=>rfl
     | some c=>cases a with
      | none=>
       obtain⟨q,hc,hq⟩:=low_has (b:=b) c
       have:=has_i.1 (h q hq)
       have:=this.1 c rfl
       grind
      | some a=>
       have:=has_i.1 (h a (lo_has hx))
       have:=this.1 c rfl
       simp[lowIn,highIn];grind
    have h2:highIn d b=true:=by
     cases d with
     |none=>rfl
     | some d=>cases b with
      | none=>
       obtain⟨q,hc,hq⟩:=high_has (a:=a) d
       have:=has_i.1 (h q hq)
       have:=this.2 d rfl
       grind
      | some b=>
       have:=has_i.1 (h b (hi_has hx))
       have:=this.2 d rfl
       simp[lowIn,highIn];grind
    simp only[within,h1,h2,Bool.and_self]
theorem anti {x y:NS} (hx:x.ok) (hy:y.ok) (h1:x.within y=true) (h2:y.within x=true):x=y:=by
 cases x with
 | e=>cases y with
  |e=>rfl
  |i c d=>cases h2
 | i a b=>cases y with
  |e=>cases h1
  | i c d=>
   cases a<;>cases b<;>cases c<;>cases d<;>simp[within,lowIn,highIn] at h1 h2 ⊢<;>grind
theorem ext {x y:NS} (hx:x.ok) (hy:y.ok) (h:∀q,x.has q=y.has q):x=y:=
 anti hx hy ((within_iff hx).2 fun q k=>by rw[←h];exact k) ((within_iff hy).2 fun q k=>by rw[h];exact k)
theorem ok_joined {x y:NS} (hx:x.ok) (hy:y.ok):(joined x y).ok:=by
 cases x with
 |e=>exact hy
 | i a b=>cases y with
  |e=>exact hx
  |i c d=>cases a<;>cases b<;>cases c<;>cases d<;>simp[ok,ordO,joined,jmin,jmax] at hx hy ⊢<;>grind
end NS
theorem co (p:Nat):(0:Rat) < 2^p:=Rat.pow_pos (by decide)
theorem GK {a b c:Rat} (hb:0 < b):a / b≤c↔a≤c*b:=by
 have:=Rat.lt_div_iff (a:=c) (b:=a) hb
 grind
theorem dV (x:Rat) (p:Nat):gdown x p≤x:=by
 unfold gdown
 have h:=Rat.floor_le (x*2^p)
 rw[GK (co p)]
 exact h
theorem GY (x:Rat) (p:Nat):gup (-x) p= -gdown x p:=by
 unfold gup gdown
 rw[Rat.neg_mul,Rat.ceil_eq_neg_floor_neg,Rat.neg_neg,Rat.intCast_neg,qAx,Rat.neg_mul,←qAx]
theorem zG (x:Rat) (p:Nat):gdown (-x) p= -gup x p:=by
 have:=GY (-x) p
 rw[Rat.neg_neg] at this
 rw[this,Rat.neg_neg]
theorem uG (x:Rat) (p:Nat):gup x p= -gdown (-x) p:=by rw[zG,Rat.neg_neg]
theorem jc (x:Rat) (p:Nat):x≤gup x p:=by
 have:=dV (-x) p
 rw[uG];grind
namespace NS
theorem ok_hull {x:NS} {p:Nat} (hx:x.ok):(hull p x).ok:=by
 cases x with
 |e=>trivial
 | i a b=>
  cases a<;>cases b<;>simp[ok,ordO,hull] at hx ⊢
  rename_i a b
  have:=dV a p
  have:=jc b p
  grind
theorem ok_sum {x y:NS} (hx:x.ok) (hy:y.ok):(sum x y).ok:=by
 cases x with
 |e=>trivial
 | i a b=>cases y with
  |e=>trivial
  |i c d=>cases a<;>cases b<;>cases c<;>cases d<;>simp[ok,ordO,sum,oadd] at hx hy ⊢;grind
end NS
def Bd (f:FuncId) (args:Array Value) (h:PH):Except Int Bool→Prop
 |.ok b=>Spec mach f args h (fun v _=>v=.bool b) NP
 |.error e=>Spec mach f args h NR (fail e)
def Br (r:Value):Except Int Bool→Prop
 |.ok b=>r=.tuple #[.bool b,.int .i64 0]
 |.error e=>r=.tuple #[.bool false,.int .i64 e]
theorem Br.sa {r:Value} {o:Except Int Bool} (k:Br r o):∃b e,r=.tuple #[.bool b,.int .i64 e]∧Br (.tuple #[.bool b,.int .i64 e]) o:=by
 cases o with
 |ok b=>exact⟨_,_,k,rfl⟩
 |error e=>exact⟨_,_,k,rfl⟩
theorem tU {h:PH} {f:FuncId} {cap:Array Value} {o:Except Int Bool} (g:Bd f cap h o):Spec mach 45 #[.func (.func f) #[] cap] h (fun r _=>Br r o) NP:=by
 cases o with
 |ok b=>exact tryBo_ok g (fun v h' _ r=>by subst r;exact⟨⟨b,rfl,rfl⟩,rfl⟩)
 |error e=>exact FZ g (fun _ _=>rfl)
theorem Sf.sa {h:PH} {v:Value} {s:PS} (r:Sf h v s):∃b1 a1 m1 c1 a2 m2 c2 b2 a3 m3 c3 a4 m4 c4,v=.agg #[.bool b1,.slice a1 m1 c1,.slice a2 m2 c2,.bool b2,.slice a3 m3 c3,.slice a4 m4 c4,.bool s.l,.bool s.u,.bool s.e]∧
  Fr h (.agg #[.bool b1,.slice a1 m1 c1,.slice a2 m2 c2]) s.lo∧Fr h (.agg #[.bool b2,.slice a3 m3 c3,.slice a4 m4 c4]) s.hi:=by
 obtain⟨b1,x1,y1,b2,x2,y2,rfl,h1,h2⟩:=r
 obtain⟨_,_,_,_,_,_,_,e1,_⟩:=h1.sa
 obtain⟨_,_,_,_,_,_,_,e2,_⟩:=h2.sa
 simp only[Value.agg.injEq,Array.mk.injEq,List.cons.injEq,and_true] at e1 e2
 obtain⟨_,rfl,rfl⟩:=e1
 obtain⟨_,rfl,rfl⟩:=e2
 exact⟨_,_,_,_,_,_,_,_,_,_,_,_,_,_,rfl,h1,h2⟩
theorem NumSign {h0 h:PH} [Le h0 h] {v:Value} {neg:Bool} {n d:Nat} (hv:Rw h0 v neg n d) (hl:¬lg neg n d):Spec mach 29 #[v] h (fun r _=>r=.tuple #[.int .i64 (sgn3 (qof neg n d)),.int .i64 0]) NP:=by
 have hv0:=hv
 obtain⟨_,_,_,_,_,_,_,rfl,_⟩:=hv.sa
 refine Spec.go [] Tryz.func29 rfl rfl (by kernel_rfl) fun C _=>?_
 try simp(disch:=omega) only[go_sem,ξ,ζ]
 refine caN (by exact sN hv0 hl) ?_;rintro v1 h1 s1 ⟨f,rfl,hf⟩;have hf0:=hf;obtain⟨_,_,_,_,_,_,_,rfl,hf⟩:=hf.sa
 try simp(disch:=omega) only[go_sem,ξ,ζ]
 refine caN (by exact dv hf0) ?_;rintro v2 h2 s2 rfl
 try simp(disch:=omega) only[go_sem,ξ,ζ]
def NS.size:NS→NS
 |.e=>.e
 |.i a b=>if 0≤(NS.i a b).slo then .i a b else if (NS.i a b).shi≤0 then (NS.i a b).minus else .i (some ((0:Int):Rat)) (jmax (a.map (-·)) b)
theorem NS.size_i {a b:Option Rat}:(NS.i a b).size=if 0≤(NS.i a b).slo then .i a b else if (NS.i a b).shi≤0 then (NS.i a b).minus else .i (some ((0:Int):Rat)) (jmax (a.map (-·)) b):=rfl
theorem NS.le.size {x:NS} {k:Nat} (hk:1≤k) (h:x.le k):x.size.le k:=by
 cases x with
 |e=>exact h
 | i a b =>
  rw[NS.size_i]
  split
  ·exact h
  ·split
   ·exact h.minus
   ·rw[NS.le_i] at h ⊢
    refine⟨fun q e=>?_,fun q e=>?_⟩
    ·cases e;exact χ (by decide) hk
    ·cases a with
     |none=>cases e
     | some a=>
      cases b with
      |none=>cases e
      |some b=>cases e;exact px (by rw[cz];exact h.1 _ rfl) (h.2 _ rfl)
def NS.fin:NS→Bool
 |.e=>true
 |.i a b=>!a.isNone && !b.isNone
def RI.bo (x:RI) (b:Bool):Except Int Bool:=bif x.big then .error 1 else .ok b
theorem IsEmpty1 {h0 h:PH} [Le h0 h] {v:Value} {x:RI} {b1:Nat} {cs:List Value} (hv:Iv h0 v x) (hc:v=.agg cs.toArray) (hl:cs.length=8) (hb1:h b1=some cs.toArray):
  Bd 46 #[.pointer (some ⟨b1,0,none⟩)] h (x.bo x.set.void):=by
 subst hc
 unfold RI.bo
 cases g:x.big with
 | true=>
  dsimp only[cond_true]
  refine Spec.enter (args:=[_]) (n:=5) Tryz.func46 rfl (by kernel_rfl) rfl (by simp) [.tmp 1] rfl (fun C _=>?_)
  repeat (first |(refine wo rfl (fun k hk=>?_);simp(disch:=omega) only[go_sem,ξ,ζ];apply hk;clear hk k) |refine wkt rfl ?_ |refine wk0 ?_ |refine rg rfl rfl (fun K hK=>?_) |((first |refine ae ?_ |refine ac ?_);simp(disch:=decide) only[qs,qb,if_true,if_false,reduceIte]) |refine ah rfl (fun K hK=>?_) |refine ct rfl ?_ |((try simp(disch:=omega) only[go_sem,ξ,ζ]);(first |apply hK |(clear hK;apply hK) |(clear hK;clear hK;apply hK));clear hK;(try clear K);(try dsimp only[ag,qs,qb])))
  refine wk (fun k hk=>?_);simp(disch:=omega) only[go_sem,ξ,ζ];refine⟨cs,hl,fG hb1,?_⟩;apply hk;clear hk k;(repeat (first |(refine wo rfl (fun k hk=>?_);simp(disch:=omega) only[go_sem,ξ,ζ];apply hk;clear hk k) |refine wkt rfl ?_));(try refine wk0 ?_)
  exact cF rfl rfl rfl rfl (by exact fF hv g) (fun _ _ h=>h)
 | false=>
  dsimp only[cond_false]
  have kR:=fun {h} [Le h0 h]=>dK (h:=h) hv g
  generalize x.set=s at*
  cases s with
  | e=>
   refine Spec.enter (args:=[_]) (n:=5) Tryz.func46 rfl (by kernel_rfl) rfl (by simp) [.tmp 1] rfl (fun C _=>?_)
   repeat (first |(refine wo rfl (fun k hk=>?_);simp(disch:=omega) only[go_sem,ξ,ζ];apply hk;clear hk k) |refine wkt rfl ?_ |refine wk0 ?_ |refine rg rfl rfl (fun K hK=>?_) |((first |refine ae ?_ |refine ac ?_);simp(disch:=decide) only[qs,qb,if_true,if_false,reduceIte]) |refine ah rfl (fun K hK=>?_) |refine ct rfl ?_ |((try simp(disch:=omega) only[go_sem,ξ,ζ]);(first |apply hK |(clear hK;apply hK) |(clear hK;clear hK;apply hK));clear hK;(try clear K);(try dsimp only[ag,qs,qb])))
   refine wk (fun k hk=>?_);simp(disch:=omega) only[go_sem,ξ,ζ];refine⟨cs,hl,fG hb1,?_⟩;apply hk;clear hk k;(repeat (first |(refine wo rfl (fun k hk=>?_);simp(disch:=omega) only[go_sem,ξ,ζ];apply hk;clear hk k) |refine wkt rfl ?_));(try refine wk0 ?_)
   refine cN rfl rfl rfl rfl (by exact kR) ?_;rintro s1 h1 st1 hs1;obtain⟨_,_,_,_,_,_,_,_,_,_,_,_,_,_,_,_,rfl,hs1⟩:=hs1.ee
   repeat (first |(refine wo rfl (fun k hk=>?_);simp(disch:=omega) only[go_sem,ξ,ζ];apply hk;clear hk k) |refine wkt rfl ?_ |refine wk0 ?_ |refine rg rfl rfl (fun K hK=>?_) |((first |refine ae ?_ |refine ac ?_);simp(disch:=decide) only[qs,qb,if_true,if_false,reduceIte]) |refine ah rfl (fun K hK=>?_) |refine ct rfl ?_ |((try simp(disch:=omega) only[go_sem,ξ,ζ]);(first |apply hK |(clear hK;apply hK) |(clear hK;clear hK;apply hK));clear hK;(try clear K);(try dsimp only[ag,qs,qb])))
   refine ai ?_;simp(disch:=omega) only[go_sem,ξ,ζ]
   all_goals rfl
  | i a b=>
   have kR:=fun {h} [Le h0 h]=>(kR (h:=h)).mono (R':=fun v h'=>Sn h' v (.i a b)) (E':=NP) (fun _ _ _ k=>k) (fun _ _ _ k=>k)
   cases a<;>cases b<;>
   ·refine Spec.enter (args:=[_]) (n:=5) Tryz.func46 rfl (by kernel_rfl) rfl (by simp) [.tmp 1] rfl (fun C _=>?_)
    repeat (first |(refine wo rfl (fun k hk=>?_);simp(disch:=omega) only[go_sem,ξ,ζ];apply hk;clear hk k) |refine wkt rfl ?_ |refine wk0 ?_ |refine rg rfl rfl (fun K hK=>?_) |((first |refine ae ?_ |refine ac ?_);simp(disch:=decide) only[qs,qb,if_true,if_false,reduceIte]) |refine ah rfl (fun K hK=>?_) |refine ct rfl ?_ |((try simp(disch:=omega) only[go_sem,ξ,ζ]);(first |apply hK |(clear hK;apply hK) |(clear hK;clear hK;apply hK));clear hK;(try clear K);(try dsimp only[ag,qs,qb])))
    refine wk (fun k hk=>?_);simp(disch:=omega) only[go_sem,ξ,ζ];refine⟨cs,hl,fG hb1,?_⟩;apply hk;clear hk k;(repeat (first |(refine wo rfl (fun k hk=>?_);simp(disch:=omega) only[go_sem,ξ,ζ];apply hk;clear hk k) |refine wkt rfl ?_));(try refine wk0 ?_)
    refine cN rfl rfl rfl rfl (by exact kR) ?_;rintro s1 h1 st1 hs1;obtain⟨_,_,_,_,_,_,_,_,_,_,_,_,_,_,rfl,e1,e2⟩:=hs1.ie;(repeat (first |(refine wo rfl (fun k hk=>?_);simp(disch:=omega) only[go_sem,ξ,ζ];apply hk;clear hk k) |refine wkt rfl ?_));(try refine wk0 ?_)
    (try (simp(disch:=omega) only[go_sem,ξ,ζ]));apply hK;clear hK;(try clear K);(try dsimp only[ag,qs])
    dsimp only[Option.isNone]
    repeat (first |(refine wo rfl (fun k hk=>?_);simp(disch:=omega) only[go_sem,ξ,ζ];apply hk;clear hk k) |refine wkt rfl ?_ |refine wk0 ?_ |refine rg rfl rfl (fun K hK=>?_) |((first |refine ae ?_ |refine ac ?_);simp(disch:=decide) only[qs,qb,if_true,if_false,reduceIte]) |refine ah rfl (fun K hK=>?_) |refine ct rfl ?_ |((try simp(disch:=omega) only[go_sem,ξ,ζ]);(first |apply hK |(clear hK;apply hK) |(clear hK;clear hK;apply hK));clear hK;(try clear K);(try dsimp only[ag,qs,qb])))
    refine ai ?_;simp(disch:=omega) only[go_sem,ξ,ζ]
    all_goals rfl
theorem sI {h0 h:PH} [Le h0 h] {v:Value} {x:RI} (hv:Iv h0 v x):Spec mach 19 #[v] h (fun r _=>Br r (x.bo x.set.void)) NP:=by
 have hv0:=hv
 obtain⟨a1,m1,c1,a2,m2,c2,a3,m3,c3,a4,m4,c4,rfl,_,_⟩:=hv.sa
 refine Spec.enter (args:=[_]) (n:=8) Tryz.func19 rfl (by kernel_rfl) rfl (by simp) [.tmp 2,.tmp 3] rfl (fun C _=>?_)
 repeat (first |(refine rg rfl rfl (fun K hK=>?_);(repeat (first |(refine wo rfl (fun k hk=>?_);simp(disch:=omega) only[go_sem,ξ,ζ];apply hk;clear hk k) |refine wkt rfl ?_));(try refine wk0 ?_);apply hK;clear hK K;(try dsimp only[ag,qs,qb])) |((first |refine ae ?_ |refine ac ?_);simp(disch:=decide) only[qs,qb,if_true,if_false,reduceIte]) |refine ah rfl (fun K hK=>?_) |refine ct rfl ?_ |((first |refine hK _ _ ?_ |(clear hK;refine hK _ _ ?_) |(clear hK;clear hK;refine hK _ _ ?_));clear hK;(try clear K)))
 refine fk [.p 0,.o 0,.o 1,.o 2,.o 3,.o 4,.o 5] rfl rfl (fun K hK=>?_);(repeat (first |(refine wo rfl (fun k hk=>?_);simp(disch:=omega) only[go_sem,ξ,ζ];apply hk;clear hk k) |refine wkt rfl ?_));(try refine wk0 ?_)
 refine wkp ?_;simp(disch:=omega) only[go_sem,ξ,ζ];intro b1 h1 st1 hb1;(repeat (first |(refine wo rfl (fun k hk=>?_);simp(disch:=omega) only[go_sem,ξ,ζ];apply hk;clear hk k) |refine wkt rfl ?_));(try refine wk0 ?_)
 have hb1:=hb1 (by simp)
 refine cN rfl rfl rfl rfl (by exact tU (IsEmpty1 (hv0.to (h':=h1)) rfl rfl hb1)) ?_;rintro r3 h3 st3 hr3;obtain⟨_,_,rfl,hr3⟩:=hr3.sa;(repeat (first |(refine wo rfl (fun k hk=>?_);simp(disch:=omega) only[go_sem,ξ,ζ];apply hk;clear hk k) |refine wkt rfl ?_));(try refine wk0 ?_)
 (try (simp(disch:=omega) only[go_sem,ξ,ζ]));apply hK;clear hK;(try clear K);(try dsimp only[ag,qs])
 refine ai ?_;simp(disch:=omega) only[go_sem,ξ,ζ]
 exact hr3
set_option maxHeartbeats 8000000
theorem OwnRat_spec {h0 h:PH} [Le h0 h] {v:Value} {neg:Bool} {n d:Nat} (hv:Rw h0 v neg n d):Spec mach 223 #[v] h (fun v h'=>Rw h' v neg n d) NP:=by
 obtain⟨a,c,xs,a',c',ys,rfl,hx,hy,rfl,rfl,lx,ly⟩:=hv
 have k1:=fun {h} [Le h0 h]=>CloneA (h:=h) hx (by omega)
 have k2:=fun {h} [Le h0 h]=>CloneA (h:=h) hy (by omega)
 refine Spec.go [(1,.o [0,1,2,3,5,6,4,7,8,9])] Tryz.func223 rfl rfl (by kernel_rfl) fun C _=>?_
 try simp(disch:=omega) only[go_sem,ξ,ζ]
 refine caN (by exact k1) ?_;rintro v1 h1 s1 ⟨_,_,rfl,q1⟩
 try simp(disch:=omega) only[go_sem,ξ,ζ]
 refine caN (by exact k2) ?_;rintro v2 h2 s2 ⟨_,_,rfl,q2⟩
 try simp(disch:=omega) only[go_sem,ξ,ζ]
 exact⟨_,_,_,_,_,_,rfl,q1.to,q2,rfl,rfl,lx,ly⟩
theorem Own_spec {h0 h:PH} [Le h0 h] {v:Value} {x:RI} (hv:Iv h0 v x):Spec mach 159 #[v] h (fun v h'=>Iv h' v x) NP:=by
 obtain⟨_,_,_,_,_,_,_,_,_,_,_,_,rfl,h1,h2⟩:=hv.sa
 have k1:=fun {h} [Le h0 h]=>OwnRat_spec (h:=h) h1
 have k2:=fun {h} [Le h0 h]=>OwnRat_spec (h:=h) h2
 refine Spec.go [(1,.o [0,1,3,4,6,7,8,9,2,5,10,11])] Tryz.func159 rfl rfl (by kernel_rfl) fun C _=>?_
 try simp(disch:=omega) only[go_sem,ξ,ζ]
 refine caN (by exact k1) ?_;rintro v1 h1 s1 q1;obtain⟨_,_,_,_,_,_,_,rfl,q1⟩:=q1.sa
 try simp(disch:=omega) only[go_sem,ξ,ζ]
 refine caN (by exact k2) ?_;rintro v2 h2 s2 q2;obtain⟨_,_,_,_,_,_,_,rfl,q2⟩:=q2.sa
 try simp(disch:=omega) only[go_sem,ξ,ζ]
 exact Iv.mk q1.to q2 _ _
abbrev Sd1:=ByteArray×RI
def Sv (h:PH) (v:Value) (s:Sd1):Prop:=∃b1 a1 m1 c1 a2 m2 c2 b2 a3 m3 c3 a4 m4 c4 l u,v=.agg #[.string s.1,.bool b1,.slice a1 m1 c1,.slice a2 m2 c2,.bool b2,.slice a3 m3 c3,.slice a4 m4 c4,.bool l,.bool u]∧Iv h (.agg #[.bool b1,.slice a1 m1 c1,.slice a2 m2 c2,.bool b2,.slice a3 m3 c3,.slice a4 m4 c4,.bool l,.bool u]) s.2
def Boxv (h:PH) (v:Value) (l:List Sd1):Prop:=∃a c,v=.slice a l.length c∧l.length≤2^30∧∀i s,l[i]?=some s→∃ad b1 a1 m1 c1 a2 m2 c2 b2 a3 m3 c3 a4 m4 c4 e u,a=some ad∧
 (∀j v,([.string s.1,.bool b1,.slice a1 m1 c1,.slice a2 m2 c2,.bool b2,.slice a3 m3 c3,.slice a4 m4 c4,.bool e,.bool u]:List Value)[j]?=some v→h.at ((ad.add (i*9)).add j)=some v)∧
 Iv h (.agg #[.bool b1,.slice a1 m1 c1,.slice a2 m2 c2,.bool b2,.slice a3 m3 c3,.slice a4 m4 c4,.bool e,.bool u]) s.2
theorem Boxv.to {h h':PH} {v:Value} {l:List Sd1} (r:Boxv h v l) [t:Le h h']:Boxv h' v l:=by
 obtain⟨a,c,rfl,hl,k⟩:=r
 refine⟨a,c,rfl,hl,fun i s hi=>?_⟩
 obtain⟨ad,b1,a1,m1,c1,a2,m2,c2,b2,a3,m3,c3,a4,m4,c4,e,u,h1,h2,h3⟩:=k i s hi
 exact⟨ad,b1,a1,m1,c1,a2,m2,c2,b2,a3,m3,c3,a4,m4,c4,e,u,h1,fun j v hj=>t.sub.at (h2 j v hj),h3.to⟩
theorem Boxv.sa {h:PH} {v:Value} {l:List Sd1} (r:Boxv h v l):∃a m c,v=.slice a m c:=let ⟨a,c,h1,_⟩:=r;⟨a,_,c,h1⟩
theorem add_1 {a:Addr} {n j:Nat}:({block:=(a.add n).block,off:=(a.add n).off+1}:Addr).add j=(a.add n).add (j+1):=by
 unfold Addr.add
 split<;>split<;>simp_all<;>omega
def fnd (l:List Sd1) (s:ByteArray):Option Nat:=l.findIdx? fun x=>x.1.toList == s.toList
theorem Index1 {h0 h:PH} [Le h0 h] {v:Value} {x:Sd1} {s:ByteArray} {b:Nat} (hv:Sv h0 v x) (hb:h b=some #[.string s]):Spec mach 94 #[v,.pointer (some ⟨b,0,none⟩)] h (fun r _=>r=.bool (x.1.toList == s.toList)) NP:=by
 obtain⟨_,_,_,_,_,_,_,_,_,_,_,_,_,_,_,_,rfl,_⟩:=hv
 refine Spec.go [] Tryz.func94 rfl rfl (by kernel_rfl) fun C _=>?_
 try simp(disch:=omega) only[go_sem,ξ,ζ]
 refine aE (aK hb) ?_
 try simp(disch:=omega) only[go_sem,ξ,ζ]
theorem IndexFunc_spec {h0 h:PH} [Le h0 h] {v:Value} {l:List Sd1} {s:ByteArray} {b:Nat} (hv:Boxv h0 v l) (hb:h0 b=some #[.string s]):Spec mach 93 #[v,.func (.func 94) #[] #[.pointer (some ⟨b,0,none⟩)]] h (fun r _=>r=.int .i64 (match fnd l s with |some i=>(i:Int) |none=>-1)) NP:=by
 obtain⟨a,c,rfl,hl,k⟩:=hv
 refine Spec.go [] Tryz.func93 rfl rfl (by kernel_rfl) fun C _=>?_
 try simp(disch:=omega) only[go_sem,ξ,ζ]
 refine lp [] (fun i:Nat=>⟨[(0,.v (.slice a l.length c)),(1,.v (.func (.func 94) #[] #[.pointer (some ⟨b,0,none⟩)])),(7,.v (.int .i64 l.length)),(8,.v (.int .i64 i))],[]⟩) (fun i h'=>Le h0 h'∧i≤l.length∧∀j x,j < i→l[j]?=some x→(x.1.toList == s.toList)=false) (fun i=>l.length - i) 0 ?_ ⟨inferInstance,qBh _,fun j w hj=>absurd hj (by omega)⟩ (by kernel_rfl) ?_
 ·try simp(disch:=omega) only[go_sem,ξ,ζ]
  all_goals rfl
 rintro i h2 ⟨le2,hi,hj⟩
 by_cases hlt:(i:Int) < l.length
 ·obtain⟨x,hx⟩:∃x,l[i]?=some x:=⟨_,List.getElem?_eq_getElem (by omega)⟩
  obtain⟨ad,b1,a1,m1,c1,a2,m2,c2,b2,a3,m3,c3,a4,m4,c4,e,u,rfl,hat,hiv⟩:=k i x hx
  try simp(disch:=omega) only[go_sem,ξ,ζ,hlt,decide_true]
  refine Exists.intro [_,_,_,_,_,_,_,_,_] (And.intro rfl (And.intro (fun j v hj=>le2.sub.at (hat j v hj)) ?_))
  try simp(disch:=omega) only[go_sem,ξ,ζ]
  refine caN (by exact Index1 (h0:=h2) ⟨_,_,_,_,_,_,_,_,_,_,_,_,_,_,_,_,rfl,hiv.to⟩ (le2.sub _ _ hb)) ?_;rintro v3 h3 s3 rfl
  try simp(disch:=omega) only[go_sem,ξ,ζ]
  cases e:(x.1.toList == s.toList) with
  | true=>
   have ef:fnd l s=some i:=by
    unfold fnd
    refine List.findIdx?_eq_some_iff_getElem.2 ⟨by omega,?_,fun j k=>?_⟩
    ·rw[List.getElem?_eq_getElem (by omega)] at hx
     cases hx;exact e
    ·have:=hj j _ k (List.getElem?_eq_getElem (by omega))
     simpa using this
   rw[ef]
   try simp(disch:=omega) only[go_sem,ξ,ζ,e]
   all_goals rfl
  | false=>
   try simp(disch:=omega) only[go_sem,ξ,ζ,e]
   dsimp only[lpE];refine⟨i+1,?_,⟨inferInstance,by omega,fun j y k hy=>?_⟩,by omega⟩
   ·try simp(disch:=omega) only[go_sem,ξ,ζ]
    all_goals rfl
   ·rcases qBj j i with g |g
    ·exact hj j y g hy
    ·obtain rfl:j=i:=by omega
     rw[hx] at hy
     cases hy
     exact e
 ·have ef:fnd l s=none:=by
   unfold fnd
   refine List.findIdx?_eq_none_iff.2 fun x hx=>?_
   obtain⟨j,h⟩:=List.getElem?_of_mem hx
   have:=(List.getElem?_eq_some_iff.1 h).1
   exact hj j x (by omega) h
  rw[ef]
  try simp(disch:=omega) only[go_sem,ξ,ζ,hlt,decide_false]
  all_goals rfl
theorem Index_spec {h0 h:PH} [Le h0 h] {v:Value} {l:List Sd1} {s:ByteArray} (hv:Boxv h0 v l):Spec mach 54 #[v,.string s] h (fun r _=>r=.int .i64 (match fnd l s with |some i=>(i:Int) |none=>-1)) NP:=by
 have hv0:=hv
 obtain⟨_,_,_,rfl⟩:=hv.sa
 refine Spec.go [(1,.t (.p 0 (.s [0,1,2,3] .d)))] Tryz.func54 rfl rfl (by kernel_rfl) fun C _=>?_
 try simp(disch:=omega) only[go_sem,ξ,ζ]
 intro b h1 st1 hb
 try simp(disch:=omega) only[go_sem,ξ,ζ]
 have hb:=hb (by simp)
 refine caN (by exact IndexFunc_spec (h0:=h1) hv0.to hb) ?_;rintro v1 h2 s2 rfl
 try simp(disch:=omega) only[go_sem,ξ,ζ]
def Fnd (h:PH) (r:Value) (l:List Sd1) (s:ByteArray):Prop:=match fnd l s with
 |none=>r=.tuple #[zIv,.bool false]
 |some i=>∃v x,l[i]?=some x∧r=.tuple #[v,.bool true]∧Iv h v x.2
theorem BFind_spec {h0 h:PH} [Le h0 h] {v:Value} {l:List Sd1} {s:ByteArray} (hv:Boxv h0 v l):Spec mach 96 #[v,.string s] h (fun r h'=>Fnd h' r l s) NP:=by
 have kI:=fun {h} [Le h0 h]=>Index_spec (h:=h) (s:=s) hv
 unfold Fnd
 obtain⟨a,c,rfl,hl,k⟩:=hv
 cases e:fnd l s with
 | none=>
  rw[e] at kI
  refine Spec.go [] Tryz.func96 rfl rfl (by kernel_rfl) fun C _=>?_
  try simp(disch:=omega) only[go_sem,ξ,ζ]
  refine caN (by exact kI) ?_;rintro v1 h1 s1 rfl
  try simp(disch:=omega) only[go_sem,ξ,ζ]
  all_goals rfl
 | some i=>
  rw[e] at kI
  have hi:i < l.length:=(List.findIdx?_eq_some_iff_getElem.1 e).1
  obtain⟨x,hx⟩:∃x,l[i]?=some x:=⟨_,List.getElem?_eq_getElem hi⟩
  obtain⟨ad,b1,a1,m1,c1,a2,m2,c2,b2,a3,m3,c3,a4,m4,c4,f,u,rfl,hat,hiv⟩:=k i x hx
  refine Spec.go [] Tryz.func96 rfl rfl (by kernel_rfl) fun C _=>?_
  try simp(disch:=omega) only[go_sem,ξ,ζ]
  refine caN (by exact kI) ?_;rintro v1 h1 s1 rfl
  try simp(disch:=omega) only[go_sem,ξ,ζ]
  refine Exists.intro [_,_,_,_,_,_,_,_] (And.intro rfl (And.intro (fun j v hj=>by rw[add_1];exact s1.sub.at ((inferInstance:Le h0 h).sub.at (hat (j+1) v hj))) ?_))
  try simp(disch:=omega) only[go_sem,ξ,ζ]
  refine caN (by exact Own_spec (hiv.to (h':=h1))) ?_;rintro v2 h2 s2 q2;obtain⟨_,_,_,_,_,_,_,_,_,_,_,_,rfl,q3⟩:=q2.sa
  try simp(disch:=omega) only[go_sem,ξ,ζ]
  exact⟨_,_,hx,rfl,q2⟩
open Go.Proofs Go.Proofs.YtgmcchhklbeckaaGreatDoor
open Go.ChangeShapes Go.WideShapes Go.ChangeAt Go.RowKit
theorem flSi:flds Tryz.prog 53=some [(9,0),(35,1)]:=by kernel_rfl
theorem unSi:Tryz.prog.underlying 28=some (.slice 53):=by kernel_rfl
theorem unSt:Tryz.prog.underlying 9=some .string:=by kernel_rfl
theorem ceSt:Tryz.prog.cellsOf 9=1:=by kernel_rfl
theorem ceSi:Tryz.prog.cellsOf 53=9:=by kernel_rfl
section
variable {H:Type} {enc:TypeId×Value→H} {W:World} {sp:Nat→Bool} {held:Bool}
theorem open_side {fuel:Nat} {cs:List Value} {x:DataW H×List MemPlace} (h:DataW.trod enc Tryz.prog W 0 sp held fuel 53 cs=some x) {B:Nat} (hB:B≤1048576) (hk:Rows.uptoBulk x.1≤B):
  ∃ (s:ByteArray) (y:RI) (a1:Option Addr) (m1 c1:Nat) (a2:Option Addr) (m2 c2:Nat) (a3:Option Addr) (m3 c3:Nat) (a4:Option Addr) (m4 c4:Nat),cs=[.string s,.bool y.n1,.slice a1 m1 c1,.slice a2 m2 c2,.bool y.n2,.slice a3 m3 c3,.slice a4 m4 c4,.bool y.l,.bool y.u]∧
   Iv (pub W) (.agg #[.bool y.n1,.slice a1 m1 c1,.slice a2 m2 c2,.bool y.n2,.slice a3 m3 c3,.slice a4 m4 c4,.bool y.l,.bool y.u]) y:=by
 obtain⟨fs,hu,hf⟩:=flds_some flSi
 obtain⟨xs,n,rfl,rfl,hl,hsz,hg⟩:=DataW.trod_struct hu h
 rw[ceSi] at hl
 have hfs:fs.size=2:=by
  have:=congrArg List.length hf
  simpa using this
 match cs,hl with
 |[c0,c1,c2,c3,c4,c5,c6,c7,c8],_=>
 have get:∀(i t o:Nat),(fs.toList.map fun f=>(f.type,f.offset))[i]?=some (t,o)→∃f:Field,fs[i]?=some f∧f.type=t∧f.offset=o:=by
  intro i t o hi
  rw[List.getElem?_map,Option.map_eq_some_iff] at hi
  obtain⟨f,h1,h2⟩:=hi
  cases h2
  exact⟨f,by simpa using h1,rfl,rfl⟩
 obtain⟨f0,k0,e0,o0⟩:=get 0 9 0 (by rw[hf];rfl)
 obtain⟨f1,k1,e1,o1⟩:=get 1 35 1 (by rw[hf];rfl)
 have g0:=hg 0 f0 k0
 have g1:=hg 1 f1 k1
 rw[e0,o0,ceSt] at g0
 rw[e1,o1,ce26] at g1
 rw[hfs] at hsz
 match xs,hsz with
 |[y0,y1],_=>
 simp only[List.drop_zero,List.take_succ_cons,List.take_zero,List.drop_succ_cons,List.getElem?_cons_zero,List.getElem?_cons_succ] at g0 g1
 simp only[Rows.uptoBulk,List.map_cons,List.map_nil,Rows.uptoBulkAll] at hk
 obtain⟨s,e0,_⟩:=DataW.trod_string unSt g0
 obtain⟨y,hy⟩:=open_iv g1 hB (by omega)
 obtain⟨a1,m1,c1',a2,m2,c2',a3,m3,c3',a4,m4,c4',e2,_,_⟩:=hy.sa
 cases e0
 simp only[Value.agg.injEq,Array.mk.injEq,List.cons.injEq,and_true] at e2
 obtain⟨rfl,rfl,rfl,rfl,rfl,rfl,rfl,rfl⟩:=e2
 exact⟨s,y,a1,m1,c1',a2,m2,c2',a3,m3,c3',a4,m4,c4',rfl,hy⟩
theorem list_of {α:Type} (P:Nat→α→Prop):∀n,(∀i,i < n→∃s,P i s)→∃l:List α,l.length=n∧∀i s,l[i]?=some s→P i s:=by
 intro n
 induction n with
 |zero=>exact fun _=>⟨[],rfl,fun i s h=>by simp at h⟩
 | succ n ih=>
  intro h
  obtain⟨l,hl,k⟩:=ih fun i hi=>h i (by omega)
  obtain⟨s,hs⟩:=h n (by omega)
  refine⟨l ++[s],by simp[hl],fun i t hi=>?_⟩
  rcases qBj i l.length with g |g
  ·rw[List.getElem?_append_left g] at hi;exact k i t hi
  ·have:i < (l ++[s]).length:=(List.getElem?_eq_some_iff.1 hi).1
   simp only[qAp,List.length_singleton] at this
   obtain rfl:i=l.length:=by omega
   rw[List.getElem?_append_right (η _),Nat.sub_self] at hi
   cases hi;rw[hl];exact hs
theorem open_box {fuel:Nat} {v:Value} {x:DataW H×List MemPlace} (h:DataW.trod enc Tryz.prog W 0 sp held fuel 28 [v]=some x) {B:Nat} (hB:B≤1048576) (hk:Rows.uptoBulk x.1≤B):
  ∃l:List Sd1,Boxv (pub W) v l:=by
 rcases DataW.trod_slice unSi h with⟨e,_⟩ |⟨a,len,cap,elems,rest,n,_,e,rfl,_,hl,hm,hlen,hel,_,_⟩
 ·cases e
  exact⟨[],none,0,rfl,by simp,fun i s h=>by simp at h⟩
 cases e
 simp only[Rows.uptoBulk] at hk
 have b1:=bulk_len (H:=H) (elems.map (·.1))
 rw[List.length_map,hlen] at b1
 obtain⟨l,hll,hP⟩:=list_of (fun i (s:Sd1)=>∃(a1:Option Addr) (m1 c1:Nat) (a2:Option Addr) (m2 c2:Nat) (a3:Option Addr) (m3 c3:Nat) (a4:Option Addr) (m4 c4:Nat),
   (∀j v,([.string s.1,.bool s.2.n1,.slice a1 m1 c1,.slice a2 m2 c2,.bool s.2.n2,.slice a3 m3 c3,.slice a4 m4 c4,.bool s.2.l,.bool s.2.u]:List Value)[j]?=some v→(pub W).at ((a.add (i*9)).add j)=some v)∧
   Iv (pub W) (.agg #[.bool s.2.n1,.slice a1 m1 c1,.slice a2 m2 c2,.bool s.2.n2,.slice a3 m3 c3,.slice a4 m4 c4,.bool s.2.l,.bool s.2.u]) s.2) len fun i hi=>by
  have he:=hel i hi
  obtain⟨y,hy⟩:∃y,elems[i]?=some y:=⟨_,List.getElem?_eq_getElem (by omega)⟩
  rw[hy,Option.bind_eq_some_iff,ceSi] at he
  obtain⟨cs,hc,ht⟩:=he
  have hb:=bulk_mem (d:=y.1) (l:=elems.map (·.1)) (List.mem_map.2 ⟨y,List.mem_of_getElem? hy,rfl⟩)
  obtain⟨s,z,a1,m1,c1,a2,m2,c2,a3,m3,c3,a4,m4,c4,rfl,hz⟩:=open_side ht hB (by omega)
  have hc':=World.cells?_some hc
  refine⟨(s,z),a1,m1,c1,a2,m2,c2,a3,m3,c3,a4,m4,c4,fun j v hj=>?_,hz⟩
  have:j < 9:=(List.getElem?_eq_some_iff.1 hj).1
  rw[pub_at,hc'.2.2 j this]
  exact hj
 refine⟨l,some a,cap,by rw[hll],by omega,fun i s hi=>?_⟩
 obtain⟨a1,m1,c1,a2,m2,c2,a3,m3,c3,a4,m4,c4,q1,q2⟩:=hP i s hi
 exact⟨a,_,a1,m1,c1,a2,m2,c2,_,a3,m3,c3,a4,m4,c4,_,_,rfl,q1,q2⟩
end
open Go.RowKit (Below)
section
variable {M:Mach} {C:Ctx} {n:Nat} {S:AS} {h:PH} {β:Nat→Nat} {a:Act} {w:World} {Q:Exit→AS→PH→Prop} {E:List PanicEntry→PH→Prop}
def mkN (P:Program) (T:TypeId) (sz:Nat):Bool:=match P.underlying T with
 | some (.slice e)=>match P.info? e with
  | some i=>match i.zero with
   |some v=>i.size == sz && v.cells.size == sz && decide (1≤sz) && decide (1≤i.bytes) && decide (i.bytes≤2^20)
   |none=>false
  |none=>false
 |_=>false
theorem mkN_some {P:Program} {T:TypeId} {sz:Nat} (h:mkN P T sz=true):∃e i v,P.underlying T=some (.slice e)∧P.info? e=some i∧i.zero=some v∧i.size=sz∧v.cells.size=sz∧1≤sz∧1≤i.bytes∧i.bytes≤2^20:=by
 unfold mkN at h
 split at h
 ·rename_i e he
  split at h
  ·rename_i i hi
   split at h
   ·rename_i v hv
    simp only[φ,beq_iff_eq,decide_eq_true_eq] at h
    exact⟨e,i,v,he,hi,hv,h.1.1.1.1,h.1.1.1.2,h.1.1.2,h.1.2,h.2⟩
   ·cases h
  ·cases h
 ·cases h
def appN (sz:Nat) (S:AS) (h:PH) (x y:AV) (k:AS→PH→AV→Prop):Prop:=match y with
 | .s j off m _=>off+m*sz≤(S.box j).length∧1≤m∧(((S.box j).drop off).take (m*sz)).all Value.oneCell'=true∧match x with
  |.v (.slice none 0 0)=>m≤2^26∧∀(cap:Nat) (junk:List Value),m≤cap→m*sz+junk.length=cap*sz→k (S.push (((S.box j).drop off).take (m*sz) ++junk)) h (.s S.bx.length 0 m cap)
  |.s i off' len cap=>off'=0∧len≤cap∧1≤cap∧cap*sz=(S.box i).length∧len+m≤2^26∧∀(cap':Nat) (junk:List Value),len+m≤cap'→(len+m)*sz+junk.length=cap'*sz→
    k ((S.setBox i []).push ((S.box i).take (len*sz) ++((S.box j).drop off).take (m*sz) ++junk)) h (.s S.bx.length 0 (len+m) cap')
  |_=>False
 |_=>False
theorem im_appN (g:G M C n S h β a w) {o:Oper} (hd:∀d,o.dst=some d→d < n) {x y:Operand} {T U:TypeId} {sz:Nat} (ho:o.op=.call {callee:=.builtin .append,args:=#[x,y],argTypes:=#[T,U]})
  (hU:uk M.P U=.slice) (hz:mkN M.P T sz=true) {k:AS→PH→AV→Prop} (hk:appN sz S h (S.ev x) (S.ev y) k):ImOk M C n a w o E k:=by
 obtain⟨e,i,z,hE,hi,hzero,hs,hzc,h1,hb1,hb2⟩:=mkN_some hz
 obtain⟨e',hE'⟩:=oA hU
 unfold appN at hk
 split at hk
 case h_2=>exact hk.elim
 rename_i j off m mc hy
 obtain⟨hoff,hm1,hall,hk⟩:=hk
 have hj:j < S.bx.length:=g.wf_ev (by rw[hy];rfl)
 have hyv:=g.ev_s hy
 generalize hN:((S.box j).drop off).take (m*sz)=news at hall hk
 have hl:news.length=m*sz:=by subst hN;simp;omega
 have hsrc:∀w',G M C n S h β a w'→(Builtin.firstCells sz m (.slice (some ⟨β j,off,none⟩) m mc)).run M.P w'=.ok news.toArray w':=fun w' g'=>by
  simp only[Builtin.firstCells]
  have:=run_loadCells_list (P:=M.P) (w:=w') ⟨β j,off,none⟩ news (fun q v hq=>by
   rw[gF]
   refine g'.box_get hj ?_
   rw[←hN,List.getElem?_take] at hq
   split at hq
   ·rw[List.getElem?_drop] at hq;exact hq
   ·cases hq)
  rw[hl] at this
  exact this
 have hexec:∀v,a.eval x=v→execOp a.eval o=(do pure (.value (←Builtin.append_ #[T,U] o.type #[v,.slice (some ⟨β j,off,none⟩) m mc])):Sem Next):=by
  intro v hv
  subst hv
  simp[execOp,ho,resolve,invoke,builtin,hyv]
 have hgrown:∀(base:Option Addr) (len cap:Nat) (old:List Value) (S':AS),a.eval x=.slice base len cap→cap < len+m→len+m≤2^26→old.length=len*sz→
   (∀w',G M C n S h β a w'→(Builtin.firstCells sz len (.slice base len cap)).run M.P w'=.ok old.toArray w')→G M C n S' h β a w.drew→S'.bx.length=S.bx.length→
   (∀(cap':Nat) (junk:List Value),len+m≤cap'→(len+m)*sz+junk.length=cap'*sz→k (S'.push (old ++news ++junk)) h (.s S.bx.length 0 (len+m) cap'))→ImOk M C n a w o E k:=by
  intro base len cap old S' hx hlt hroom hol hold g1 hlen hk
  have gd:=g.below (gt w)
  have c1:¬(len+m≤cap):=by omega
  have c2:¬(((len+m:Nat):Int) > IntKind.i64.max∧(i.bytes=0)):=by omega
  have c3:¬(Builtin.nextslicecap (len+m) cap*i.bytes > 2^48):=by
   have:=qAk (next_le hlt) hb2
   omega
  have⟨q,hq⟩:∃q:Nat,(Builtin.append_ #[T,U] T #[.slice base len cap,.slice (some ⟨β j,off,none⟩) m mc]).run M.P w=.ok (.slice (some ⟨w.heap.size,0,none⟩) (len+m) (len+m+q)) (w.drew.alloc (.cells (old.toArray ++news.toArray ++Builtin.zeroCells z.cells q) e)):=by
   refine⟨w.tape w.drawn (.appendCap (len+m) cap e) % (2^63 - (len+m)),?_⟩
   simp only[Builtin.append_,Sem.run_bind,run_underlying hE,run_underlying hE',Result.andThen_ok,Sem.run_pure,sizeOf,typeInfo,run_program,hi,hs,Builtin.lenOf,
    List.getElem?_toArray,List.getElem?_cons_zero,List.getElem?_cons_succ,qAw,if_false,Bool.not_false,if_true,c1,false_or,c2,c3,run_choose,Question.forced,Question.cut,World.drew_eq,run_askRoom,hold _ gd,hsrc _ gd,
    zeroValue,hzero,Nat.add_sub_cancel_left,newRow,run_newObj,World.alloc_eq,World.size_drew]
  have hjl:(Builtin.zeroCells z.cells q).toList.length=q*sz:=by simp[Builtin.zeroCells,hzc]
  obtain⟨β',b1,b2,g'⟩:=g1.push (old ++news ++(Builtin.zeroCells z.cells q).toList) e
  refine .mk hd (v:=.slice (some ⟨w.heap.size,0,none⟩) (len+m) (len+m+q)) (x:=.s S.bx.length 0 (len+m) (len+m+q)) ?_ (.inr ((gt w).alloc (by rw[World.size_drew];exact η _) _)) (β':=β') (S':=S'.push (old ++news ++(Builtin.zeroCells z.cells q).toList)) (w':=w.drew.alloc (.cells (old ++news ++(Builtin.zeroCells z.cells q).toList).toArray e)) g' (.inr ?_) ?_ (hk _ _ (by omega) (by rw[hjl,←Nat.add_mul]))
  ·have hc:old.toArray ++news.toArray ++Builtin.zeroCells z.cells q=(old ++news ++(Builtin.zeroCells z.cells q).toList).toArray:=by simp
   rw[hc] at hq
   rw[hexec _ hx]
   have hty:∀(t:TypeId) (vs:Array Value),Builtin.append_ #[T,U] t vs=Builtin.append_ #[T,U] T vs:=fun _ _=>rfl
   simp only[Sem.run_bind,hty,hq,Result.andThen_ok,Sem.run_pure]
  ·simp only[cv,←hlen,b2,World.size_drew]
  ·intro i hi;cases hi;simp[AS.push,hlen]
 split at hk
 ·rename_i hx
  obtain⟨hroom,hk⟩:=hk
  refine hgrown none 0 0 [] S (g.ev_v hx) (by omega) (by omega) (by simp) (fun w' _=>by simp[Builtin.firstCells]) (g.below (gt w)) rfl (fun cap' junk c1 c2=>?_)
  rw[Nat.zero_add] at c1 c2 ⊢
  exact hk cap' junk c1 c2
 ·rename_i i' off' len cap hx
  obtain⟨rfl,hlc,hc1,hcap,hroom,hk⟩:=hk
  have hcls:cls o.op=2:=by
   rw[ho]
   cases x with
   |const c=>cases hx
   |_=>rfl
  have hi':i' < S.bx.length:=g.wf_ev (by rw[hx];rfl)
  have hget:S.bx[i']?=some (S.box i'):=by simp[AS.box,hi']
  have hlm:len*sz≤cap*sz:=ψ _ hlc
  by_cases hle:len+m≤cap
  ·have hne:S.box i'≠[]:=fun e0=>by
    rw[e0] at hcap
    have:=ψ sz hc1
    simp at hcap;omega
   have hlm2:=ψ sz hle
   rw[Nat.add_mul] at hlm2
   obtain⟨T',hw⟩:=(g.boxes i' _ hget hne).row
   obtain⟨w',h1',h2,h3⟩:=jd (P:=M.P) news (S.box i') (len*sz) 0 w hw (by omega) hall
   have hspl:(S.box i').take (len*sz) ++news ++(S.box i').drop (len*sz+m*sz)=spl (S.box i') (len*sz) news:=by
    rw[spl_eq _ _ _ (by omega),hl]
   have hkj:=hk cap ((S.box i').drop (len*sz+m*sz)) hle (by simp[Nat.add_mul];omega)
   rw[hspl] at hkj
   have g1:=g.setBox hget hne (cs':=spl (S.box i') (len*sz) news) (by rw[sm]) (by simpa using h2) h3
   obtain⟨β',b1,g'⟩:=g1.move (i:=i') (cs:=spl (S.box i') (len*sz) news) (by simp[AS.setBox,hi'])
   have hset:(S.setBox i' (spl (S.box i') (len*sz) news)).setBox i' []=S.setBox i' []:=by simp[AS.setBox]
   have hlen:(S.setBox i' (spl (S.box i') (len*sz) news)).bx.length=S.bx.length:=by simp[AS.setBox]
   rw[hset] at g'
   rw[hlen] at b1
   refine .mk hd (v:=.slice (some ⟨β i',0,none⟩) (len+m) cap) (x:=.s S.bx.length 0 (len+m) cap) (w':=w') ?_ (.inl hcls) g' (.inr (by simp[cv,b1])) (fun q hq=>by cases hq;simp[AS.push,AS.setBox]) hkj
   rw[hexec _ (g.ev_s hx)]
   have hst:(storeCells ((⟨β i',0,none⟩:Addr).add (len*sz)) news).run M.P w=.ok () w':=by simpa[gF] using h1'
   simp only[Builtin.append_,Sem.run_bind,run_underlying hE,run_underlying hE',Result.andThen_ok,Sem.run_pure,sizeOf,typeInfo,run_program,hi,hs,Builtin.lenOf,
    List.getElem?_toArray,List.getElem?_cons_zero,List.getElem?_cons_succ,qAw,if_false,Bool.not_false,if_true,hle,hsrc _ g,hst]
  ·refine hgrown (some ⟨β i',0,none⟩) len cap ((S.box i').take (len*sz)) (S.setBox i' []) (g.ev_s hx) (by omega) hroom (by simp;omega) (fun w' g'=>?_) ((g.below (gt w)).kill i') (by simp[AS.setBox]) hk
   simp only[Builtin.firstCells]
   have hl2:((S.box i').take (len*sz)).length=len*sz:=by simp;omega
   have:=run_loadCells_list (P:=M.P) (w:=w') ⟨β i',0,none⟩ ((S.box i').take (len*sz)) (fun j v hj=>by
    rw[gF]
    refine g'.box_get hi' ?_
    rw[List.getElem?_take] at hj
    split at hj
    ·simpa using hj
    ·cases hj)
   rw[hl2] at this
   exact this
 ·exact hk.elim
theorem RWc_tail {ops:Array Oper} {Q Q':Exit→Act→World→Prop} {r:List Nat} (hp:∀e a w,e≠.normal→Q' e a w→Q e a w) (hl:LetsOut Q'→LetsOut Q) (hn:∀a w,Q' .normal a w→RWc M.P ops Q r a w):∀(l:List Nat) (a:Act) (w:World),RWc M.P ops Q' l a w→RWc M.P ops Q (l ++r) a w:=by
 intro l
 induction l with
 |nil=>intro a w hq;exact hn a w hq
 | cons i l ih=>
  intro a w hq
  show RWc M.P ops Q (i :: (l ++r)) a w
  simp only[RWc] at hq ⊢
  split at hq
  ·exact hq
  ·rename_i o ho
   by_cases hw:Region.wanted o (yielded ops a.tmps)=true
   ·rw[if_pos hw] at hq ⊢
    by_cases hc:cls o.op=0
    ·rw[if_pos hc] at hq ⊢
     obtain⟨v,h1,h2⟩:=hq
     exact⟨v,h1,ih _ _ h2⟩
    ·rw[if_neg hc] at hq ⊢
     have hq:=nf (K':=fun a' w'=>(cls o.op=2∨Below w.heap.size w w')∧RWc M.P ops Q (l ++r) a' w') (fun a' w' h=>⟨h.1,ih _ _ h.2⟩) hq
     unfold Oper.wp at hq ⊢
     generalize(execOp a.eval o).run M.P w=r at hq
     cases r with
     | ok n w'=>
      cases n<;>simp only[Oper.upon] at hq ⊢<;>first
       |exact hq
       |exact Calls.mono hq (fun e w'' he=>by cases e<;>first |exact he |exact hp _ _ _ (by simp) he |exact hl he)
     |halt x w'=>cases x<;>simp only[Oper.upon] at hq ⊢<;>first |exact hq |exact hp _ _ _ (by simp) hq
   ·rw[if_neg hw] at hq ⊢
    exact ih _ _ hq
theorem RWc_app {ops:Array Oper} {l1 l2:List GX} {d:Nat} {x y:Operand} {T U V:TypeId} {ps:String} {ar:Array Edge} {sz:Nat} (pl1:List PL) (i:Nat) (pl2:List PL) (hi:nth ops.toList i=some ⟨some d,.call {callee:=.builtin .append,args:=#[x,y],argTypes:=#[T,U]},V,ps,ar,none⟩)
  (hU:uk M.P U=.slice) (hz:mkN M.P T sz=true) (hd:d < n) (h1:prep n ops pl1=some l1) (h2:prep n ops pl2=some l2)
  (hw:walk M E l1 (fun S h=>appN sz S h (S.ev x) (S.ev y) fun S h v=>walk M E l2 (fun S h=>Q .normal S h) (S.put (some d) v) h) S h) (g:G M C n S h β a w):RWc M.P ops (LQ M n C Q E) (order pl1 ++i :: order pl2) a w:=by
 refine RWc_tail (Q':=LQ M n C (qs (fun S h=>appN sz S h (S.ev x) (S.ev y) fun S h v=>walk M E l2 (fun S h=>Q .normal S h) (S.put (some d) v) h) Q) E) (fun e a w he hq=>?_) ?_ (fun a w hq=>?_) _ _ _ (fx pl1 l1 S h β a w h1 hw g)
 ·cases e with
  |normal=>exact(he rfl).elim
  |panic ch=>exact hq
  |outgrown=>exact hq
  |_=>exact hq
 ·unfold LetsOut
  exact fun h=>h
 ·obtain⟨S1,h1',β1,g1,hk⟩:=hq
  rw[Bp] at hi
  dsimp only[qs] at hk
  rw[jP hi (by simp only[cls];cases nilB _<;>decide),if_pos (nI rfl _)]
  have:=im_appN (E:=E) g1 (o:=⟨some d,.call {callee:=.builtin .append,args:=#[x,y],argTypes:=#[T,U]},V,ps,ar,none⟩) (fun k hk=>by cases hk;exact hd) rfl hU hz hk (LQ M n C Q E) (fun ch h' w' hf he=>⟨g1.defers,h',hf,he⟩)
  exact nf (fun a' w' ⟨h1,S',h',x,β',g',hk⟩=>⟨h1,fx pl2 l2 _ h' β' a' w' h2 hk g'⟩) this
theorem AWP_app {id:Nat} {ops:Array Oper} {l1 l2:List GX} {d:Nat} {x y:Operand} {T U V:TypeId} {ps:String} {ar:Array Edge} {sz:Nat} (pl1:List PL) (i:Nat) (pl2:List PL) (hi:nth ops.toList i=some ⟨some d,.call {callee:=.builtin .append,args:=#[x,y],argTypes:=#[T,U]},V,ps,ar,none⟩)
  (hU:uk M.P U=.slice) (hz:mkN M.P T sz=true) (hord:order pl1 ++i :: order pl2=List.range ops.size) (hd:d < n) (h1:prep n ops pl1=some l1) (h2:prep n ops pl2=some l2)
  (hw:walk M E l1 (fun S h=>appN sz S h (S.ev x) (S.ev y) fun S h v=>walk M E l2 (fun S h=>Q .normal S h) (S.put (some d) v) h) S h):AWP M n C (.region id ops false) Q E S h:=
 fun β a w g=>eK (by rw[←hord];exact RWc_app pl1 i pl2 hi hU hz hd h1 h2 hw g)
theorem AWP_apD {id:Nat} {ops:Array Oper} {l1 l2:List GX} {d:Nat} {x y:Operand} {T U V:TypeId} {ps:String} {ar:Array Edge} {sz:Nat} (pl1:List PL) (i:Nat) (pl2:List PL) (hi:nth ops.toList i=some ⟨some d,.call {callee:=.builtin .append,args:=#[x,y],argTypes:=#[T,U]},V,ps,ar,none⟩)
  (hU:uk M.P U=.slice) (hz:mkN M.P T sz=true) (hc:fi ops (order pl1 ++i :: order pl2)=true) (hd:d < n) (h1:prep n ops pl1=some l1) (h2:prep n ops pl2=some l2)
  (hw:walk M E l1 (fun S h=>appN sz S h (S.ev x) (S.ev y) fun S h v=>walk M E l2 (fun S h=>Q .normal S h) (S.put (some d) v) h) S h):AWP M n C (.region id ops true) Q E S h:=
 fun β a w g=>Eh M.mixed _ hc (fun c a d v w=>sJ c a d v w) (RWc_app pl1 i pl2 hi hU hz hd h1 h2 hw (g.below (gt w)))
end
def RowOf {α:Type} (sz:Nat) (Q:List Value→α→Prop) (row:List Value) (l:List α):Prop:=l.length*sz≤row.length∧∀(i:Nat) (s:α),l[i]?=some s→Q ((row.drop (i*sz)).take sz) s
theorem RowOf.nil {α:Type} {sz:Nat} {Q:List Value→α→Prop} {row:List Value}:RowOf sz Q row []:=⟨by simp,fun i s h=>by simp at h⟩
theorem RowOf.mono {α:Type} {sz:Nat} {Q Q':List Value→α→Prop} {row:List Value} {l:List α} (h:RowOf sz Q row l) (k:∀cs s,Q cs s→Q' cs s):RowOf sz Q' row l:=⟨h.1,fun i s e=>k _ _ (h.2 i s e)⟩
theorem RowOf.app {α:Type} {sz:Nat} {Q:List Value→α→Prop} {row:List Value} {l:List α} (h:RowOf sz Q row l) {cs:List Value} {s:α} (hl:cs.length=sz) (q:Q cs s) (junk:List Value):RowOf sz Q (row.take (l.length*sz) ++cs ++junk) (l ++[s]):=by
 have h1:=h.1
 have e1:(row.take (l.length*sz)).length=l.length*sz:=by simp;omega
 refine⟨by simp[Nat.add_mul];omega,fun i t hi=>?_⟩
 rcases qBj i l.length with g |g
 ·rw[List.getElem?_append_left g] at hi
  have hm:(i+1)*sz≤l.length*sz:=ψ _ g
  rw[Nat.add_mul,qBm] at hm
  have:=h.2 i t hi
  rw[List.append_assoc,List.drop_append_of_le_length (by omega),List.take_append_of_le_length (by simp;omega),List.drop_take,List.take_take,Nat.min_eq_left (by omega)]
  exact this
 ·have:i < (l ++[s]).length:=(List.getElem?_eq_some_iff.1 hi).1
  simp only[qAp,List.length_singleton] at this
  obtain rfl:i=l.length:=by omega
  rw[List.getElem?_append_right (η _),Nat.sub_self] at hi
  cases hi
  rw[List.append_assoc,List.drop_append_of_le_length (by omega),List.drop_take,Nat.sub_self,List.take_zero,List.nil_append,←hl,List.take_append_of_le_length (η _),List.take_length]
  exact q
theorem RowOf.ld {α:Type} {sz:Nat} {Q:List Value→α→Prop} {row:List Value} {l:List α} (h:RowOf sz Q row l) {i:Nat} {s:α} (hi:l[i]?=some s):ldb (some sz) row (i*sz)=some (.agg ((row.drop (i*sz)).take sz).toArray):=by
 have h1:=h.1
 have g:i < l.length:=(List.getElem?_eq_some_iff.1 hi).1
 have hm:(i+1)*sz≤l.length*sz:=ψ _ g
 rw[Nat.add_mul,qBm] at hm
 show(bif Nat.ble (i*sz+sz) row.length then _ else _)=_
 rw[Nat.ble_eq_true_of_le (by omega)]
 rfl
theorem at_off {h:PH} {b:Nat} {cs:Array Value} (hb:h b=some cs) (n j:Nat):h.at (((⟨b,0,none⟩:Addr).add n).add j)=cs[n+j]?:=by
 have e:((⟨b,0,none⟩:Addr).add n).add j=⟨b,n+j,none⟩:=by
  unfold Addr.add
  split<;>split<;>simp_all
 rw[e]
 simp[PH.at,hb]
end Go.Q
