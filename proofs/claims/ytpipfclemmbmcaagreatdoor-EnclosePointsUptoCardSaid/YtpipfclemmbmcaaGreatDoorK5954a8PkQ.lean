/-
  The law of EnclosePoints. Conditions: the arguments are a box and a point as they come in.
-/
import Derived.Test.YtpipfclemmbmcaaGreatDoorK747706PkG
import Derived.Test.YtpipfclemmbmcaaGreatDoorK7bf605PkP
set_option linter.unusedVariables false
set_option linter.unusedSimpArgs false
open Nat renaming reduceBEq→ξ,reduceAdd→ζ,zero_le→qBh
open Bool renaming and_eq_true→φ
open List renaming all_eq_true→qBd
namespace Go.Q
open Go.Proofs
set_option maxRecDepth 100000
set_option maxHeartbeats 8000000
theorem Pbx.to {h h':PH} {v:Value} {l:List (ByteArray×Rat)} (r:Pbx h v l) [t:Le h h']:Pbx h' v l:=by
 obtain⟨a,c,rfl,k⟩:=r
 refine⟨a,c,rfl,fun i s hi=>?_⟩
 obtain⟨ad,cs,h1,⟨ds,e1,e2,e3⟩,h3⟩:=k i s hi
 exact⟨ad,cs,h1,⟨ds,e1,e2,e3.to⟩,fun j v hj=>t.sub.at (h3 j v hj)⟩
def atOk (b:List Sd1) (p:List Pv1):Bool:=okB b && (okP p && inB b p)
def AtR (h:PH) (r:Value) (b:List Sd1) (p:List Pv1) (l:List (ByteArray×Rat)):Prop:=match atOk b p with
 |true=>∃u,r=.tuple #[u,.int .i64 0]∧Pbx h u l
 |false=>r=.tuple #[.slice none 0 0,.int .i64 50]
theorem inB_len {b:List Sd1} {p:List Pv1} (h:inB b p=true):p.length=b.length:=by
 unfold inB at h
 rw[φ] at h
 exact of_decide_eq_true h.1
theorem okB_six {b:List Sd1} (h:okB b=true):b.length≤6:=by
 unfold okB at h
 rw[φ] at h
 exact of_decide_eq_true h.1
theorem At_p {h0 h:PH} [Le h0 h] {v w:Value} {b:List Sd1} {p:List Pv1} (hv:Boxv h0 v b) (hw:Ptv h0 w p):Spec mach 27 #[v,w] h (fun r h'=>AtR h' r b p (p.map nq)) NP:=by
 have kV:=fun {h} [Le h0 h]=>BValid_spec (h:=h) hv
 have kP:=fun {h} [Le h0 h]=>IsPoint_spec (h:=h) hw
 have kI:=fun(g1:okB b=true) (g2:okP p=true) {h} [Le h0 h]=>InBox_p (h:=h) hv hw g1 g2
 have kA:=fun(g1:okB b=true) (g2:okP p=true) (g3:inB b p=true) {h} [Le h0 h]=>PointBox_spec (h:=h) hw g2 (by have:=inB_len g3;have:=okB_six g1;omega)
 unfold AtR atOk
 obtain⟨_,_,_,rfl⟩:=hv.sa
 obtain⟨_,_,_,rfl⟩:=hw.sa
 cases g1:okB b with
 | false=>
  rw[g1] at kV
  refine Spec.go [] Tryz.func27 rfl rfl (by kernel_rfl) fun C _=>?_
  try simp(maxSteps:=999999) (disch:=omega) only[go_sem,ξ,ζ]
  refine caN (by exact kV) ?_;rintro v1 h1 s1 rfl
  try simp(maxSteps:=999999) (disch:=omega) only[go_sem,ξ,ζ]
  all_goals exact trivial
 | true=>
  rw[g1] at kV
  cases g2:okP p with
  | false=>
   rw[g2] at kP
   refine Spec.go [] Tryz.func27 rfl rfl (by kernel_rfl) fun C _=>?_
   try simp(maxSteps:=999999) (disch:=omega) only[go_sem,ξ,ζ]
   refine caN (by exact kV) ?_;rintro v1 h1 s1 rfl
   try simp(maxSteps:=999999) (disch:=omega) only[go_sem,ξ,ζ]
   refine caN (by exact kP) ?_;rintro v2 h2 s2 rfl
   try simp(maxSteps:=999999) (disch:=omega) only[go_sem,ξ,ζ]
   all_goals exact trivial
  | true=>
   rw[g2] at kP
   have kI:=fun {h} [Le h0 h]=>kI g1 g2 (h:=h)
   cases g3:inB b p with
   | false=>
    rw[g3] at kI
    refine Spec.go [] Tryz.func27 rfl rfl (by kernel_rfl) fun C _=>?_
    try simp(maxSteps:=999999) (disch:=omega) only[go_sem,ξ,ζ]
    refine caN (by exact kV) ?_;rintro v1 h1 s1 rfl
    try simp(maxSteps:=999999) (disch:=omega) only[go_sem,ξ,ζ]
    refine caN (by exact kP) ?_;rintro v2 h2 s2 rfl
    try simp(maxSteps:=999999) (disch:=omega) only[go_sem,ξ,ζ]
    refine caN (by exact kI) ?_;rintro v3 h3 s3 rfl
    try simp(maxSteps:=999999) (disch:=omega) only[go_sem,ξ,ζ]
    all_goals exact trivial
   | true=>
    rw[g3] at kI
    refine Spec.go [] Tryz.func27 rfl rfl (by kernel_rfl) fun C _=>?_
    try simp(maxSteps:=999999) (disch:=omega) only[go_sem,ξ,ζ]
    refine caN (by exact kV) ?_;rintro v1 h1 s1 rfl
    try simp(maxSteps:=999999) (disch:=omega) only[go_sem,ξ,ζ]
    refine caN (by exact kP) ?_;rintro v2 h2 s2 rfl
    try simp(maxSteps:=999999) (disch:=omega) only[go_sem,ξ,ζ]
    refine caN (by exact kI) ?_;rintro v3 h3 s3 rfl
    try simp(maxSteps:=999999) (disch:=omega) only[go_sem,ξ,ζ]
    refine caN (by exact kA g1 g2 g3) ?_;rintro v4 h4 s4 ⟨u,rfl,q4⟩;obtain⟨_,_,rfl,q5⟩:=q4
    try simp(maxSteps:=999999) (disch:=omega) only[go_sem,ξ,ζ]
    exact⟨_,rfl,_,_,rfl,q5⟩
theorem At_r {h0 h:PH} [Le h0 h] {v w:Value} {b:List Sd1} {p:List Pv1} (hv:Boxv h0 v b) (hw:Ptv h0 w p):Spec mach 28 #[v,w] h (fun r h'=>AtR h' r b p (zipQ b p)) NP:=by
 have kV:=fun {h} [Le h0 h]=>RBValid_spec (h:=h) hv
 have kP:=fun {h} [Le h0 h]=>GoodPoint_spec (h:=h) hw
 have kI:=fun(g1:okB b=true) (g2:okP p=true) {h} [Le h0 h]=>InBox_r (h:=h) hv hw g1 g2
 have kA:=fun(g1:okB b=true) (g2:okP p=true) (g3:inB b p=true) {h} [Le h0 h]=>RAt_spec (h:=h) hv hw g2 (inB_len g3) (by have:=inB_len g3;have:=okB_six g1;omega)
 unfold AtR atOk
 obtain⟨_,_,_,rfl⟩:=hv.sa
 obtain⟨_,_,_,rfl⟩:=hw.sa
 cases g1:okB b with
 | false=>
  rw[g1] at kV
  refine Spec.go [] Tryz.func28 rfl rfl (by kernel_rfl) fun C _=>?_
  try simp(maxSteps:=999999) (disch:=omega) only[go_sem,ξ,ζ]
  refine caN (by exact kV) ?_;rintro v1 h1 s1 rfl
  try simp(maxSteps:=999999) (disch:=omega) only[go_sem,ξ,ζ]
  all_goals exact trivial
 | true=>
  rw[g1] at kV
  cases g2:okP p with
  | false=>
   rw[g2] at kP
   refine Spec.go [] Tryz.func28 rfl rfl (by kernel_rfl) fun C _=>?_
   try simp(maxSteps:=999999) (disch:=omega) only[go_sem,ξ,ζ]
   refine caN (by exact kV) ?_;rintro v1 h1 s1 rfl
   try simp(maxSteps:=999999) (disch:=omega) only[go_sem,ξ,ζ]
   refine caN (by exact kP) ?_;rintro v2 h2 s2 rfl
   try simp(maxSteps:=999999) (disch:=omega) only[go_sem,ξ,ζ]
   all_goals exact trivial
  | true=>
   rw[g2] at kP
   have kI:=fun {h} [Le h0 h]=>kI g1 g2 (h:=h)
   cases g3:inB b p with
   | false=>
    rw[g3] at kI
    refine Spec.go [] Tryz.func28 rfl rfl (by kernel_rfl) fun C _=>?_
    try simp(maxSteps:=999999) (disch:=omega) only[go_sem,ξ,ζ]
    refine caN (by exact kV) ?_;rintro v1 h1 s1 rfl
    try simp(maxSteps:=999999) (disch:=omega) only[go_sem,ξ,ζ]
    refine caN (by exact kP) ?_;rintro v2 h2 s2 rfl
    try simp(maxSteps:=999999) (disch:=omega) only[go_sem,ξ,ζ]
    refine caN (by exact kI) ?_;rintro v3 h3 s3 rfl
    try simp(maxSteps:=999999) (disch:=omega) only[go_sem,ξ,ζ]
    all_goals exact trivial
   | true=>
    rw[g3] at kI
    refine Spec.go [] Tryz.func28 rfl rfl (by kernel_rfl) fun C _=>?_
    try simp(maxSteps:=999999) (disch:=omega) only[go_sem,ξ,ζ]
    refine caN (by exact kV) ?_;rintro v1 h1 s1 rfl
    try simp(maxSteps:=999999) (disch:=omega) only[go_sem,ξ,ζ]
    refine caN (by exact kP) ?_;rintro v2 h2 s2 rfl
    try simp(maxSteps:=999999) (disch:=omega) only[go_sem,ξ,ζ]
    refine caN (by exact kI) ?_;rintro v3 h3 s3 rfl
    try simp(maxSteps:=999999) (disch:=omega) only[go_sem,ξ,ζ]
    refine caN (by exact kA g1 g2 g3) ?_;rintro u h4 s4 q4;obtain⟨_,_,rfl,q5⟩:=q4
    try simp(maxSteps:=999999) (disch:=omega) only[go_sem,ξ,ζ]
    exact⟨_,rfl,_,_,rfl,q5⟩
theorem SameSides_yes {h0 h:PH} [Le h0 h] {a a':Option Addr} {c c' n:Nat} (k:∀i,i < n→∃(ad ad':Addr) (s s':ByteArray) (cs cs':List Value),a=some ad∧a'=some ad'∧(s.toList == s'.toList)=true∧cs.length=8∧cs'.length=8∧
  (∀j v,(.string s :: cs)[j]?=some v→h0.at ((ad.add (i*9)).add j)=some v)∧(∀j v,(.string s' :: cs')[j]?=some v→h0.at ((ad'.add (i*9)).add j)=some v)∧
  ∀{h} [Le h0 h],Spec mach 105 #[.agg cs.toArray,.agg cs'.toArray] h (fun r _=>r=.bool true) NP) (hn:n≤2^30):Spec mach 57 #[.slice a n c,.slice a' n c'] h (fun r _=>r=.bool true) NP:=by
 have en:((n:Int) != (n:Int))=false:=by simp
 refine Spec.go [] Tryz.func57 rfl rfl (by kernel_rfl) fun C _=>?_
 try simp(maxSteps:=999999) (disch:=omega) only[go_sem,ξ,ζ,en]
 refine lp [] (fun i:Nat=>⟨[(0,.v (.slice a n c)),(1,.v (.slice a' n c')),(11,.v (.slice a n c)),(12,.v (.int .i64 n)),(13,.v (.int .i64 i))],[]⟩) (fun i h'=>Le h0 h'∧i≤n) (fun i=>n - i) 0 ?_ ⟨inferInstance,qBh _⟩ (by kernel_rfl) ?_
 ·try simp(maxSteps:=999999) (disch:=omega) only[go_sem,ξ,ζ]
  all_goals rfl
 rintro i h2 ⟨le2,hi⟩
 by_cases hlt:(i:Int) < n
 ·obtain⟨ad,ad',s,s',cs,cs',rfl,rfl,hs,hl,hl',hat,hat',kS⟩:=k i (by omega)
  have e0:h0.at (ad.add (i*9))=some (.string s):=hat 0 _ rfl
  have e0':h0.at (ad'.add (i*9))=some (.string s'):=hat' 0 _ rfl
  try simp(maxSteps:=999999) (disch:=omega) only[go_sem,ξ,ζ,hlt,decide_true]
  refine aE (le2.sub.at e0) ?_
  try simp(maxSteps:=999999) (disch:=omega) only[go_sem,ξ,ζ]
  refine aE (le2.sub.at e0') ?_
  try simp(maxSteps:=999999) (disch:=omega) only[go_sem,ξ,ζ,hs]
  refine Exists.intro cs (And.intro hl (And.intro (fun j v hj=>by rw[add_1];exact le2.sub.at (hat (j+1) v hj)) ?_))
  try simp(maxSteps:=999999) (disch:=omega) only[go_sem,ξ,ζ]
  refine Exists.intro cs' (And.intro hl' (And.intro (fun j v hj=>by rw[add_1];exact le2.sub.at (hat' (j+1) v hj)) ?_))
  try simp(maxSteps:=999999) (disch:=omega) only[go_sem,ξ,ζ]
  refine caN (by exact kS) ?_;rintro v3 h3 s3 rfl
  try simp(maxSteps:=999999) (disch:=omega) only[go_sem,ξ,ζ]
  dsimp only[lpE];refine⟨i+1,?_,⟨inferInstance,by omega⟩,by omega⟩
  ·try simp(maxSteps:=999999) (disch:=omega) only[go_sem,ξ,ζ]
   all_goals rfl
 ·try simp(maxSteps:=999999) (disch:=omega) only[go_sem,ξ,ζ,hlt,decide_false]
theorem Same_pts {h0 h:PH} [Le h0 h] {u w:Value} {b:List Sd1} {p:List Pv1} (g:atOk b p=true) (hu:Pbx h0 u (p.map nq)) (hw:Pbx h0 w (zipQ b p)):Spec mach 57 #[u,w] h (fun r _=>r=.bool true) NP:=by
 unfold atOk at g
 simp only[φ] at g
 obtain⟨g1,g2,g3⟩:=g
 have hl:=inB_len g3
 have h6:=okB_six g1
 obtain⟨a,c,rfl,k⟩:=hu
 obtain⟨a',c',rfl,k'⟩:=hw
 have hn:(zipQ b p).length=p.length:=by unfold zipQ;rw[List.length_zipWith];omega
 rw[hn]
 rw[List.length_map]
 refine SameSides_yes (h0:=h0) (fun i hi=>?_) (by omega)
 obtain⟨x,hx⟩:∃x,b[i]?=some x:=⟨_,List.getElem?_eq_getElem (by omega)⟩
 obtain⟨y,hy⟩:∃y,p[i]?=some y:=⟨_,List.getElem?_eq_getElem (by omega)⟩
 have gp:=okP_big g2 hy
 have sq:sz (qof y.2.1 y.2.2.1 y.2.2.2)≤2048:=by unfold lg at gp;omega
 have hz:(zipQ b p)[i]?=some (x.1,qof y.2.1 y.2.2.1 y.2.2.2):=by unfold zipQ;rw[List.getElem?_zipWith,hx,hy]
 have hm:(p.map nq)[i]?=some (nq y):=by rw[List.getElem?_map,hy];rfl
 have hs:inS b p i=true:=by
  unfold inB at g3
  rw[φ] at g3
  exact qBd.1 g3.2 i (List.mem_range.2 hi)
 unfold inS at hs
 rw[hx,hy] at hs
 simp only[φ] at hs
 obtain⟨ad,_,rfl,⟨ds,rfl,q2,q3⟩,q4⟩:=k i _ hm
 obtain⟨ad',_,rfl,⟨ds',rfl,q2',q3'⟩,q4'⟩:=k' i _ hz
 exact⟨ad,ad',y.1,x.1,ds,ds',rfl,rfl,hs.1,q2,q2',q4,q4',fun {h} _=>RefSame q3 q3' (by show ordO _ _=true;simp[ordO]) (NS.le_one sq)⟩
theorem Box_no {h:PH} {e:Int} (he:e≠0):Spec mach 22 #[.slice none 0 0,.int .i64 e,.slice none 0 0,.int .i64 e] h (fun r _=>r=.bool true) NP:=by
 have e1:(e != e)=false:=by simp
 have e2:(e != 0)=true:=by simp[he]
 refine Spec.go [] Tryz.func22 rfl rfl (by kernel_rfl) fun C _=>?_
 try simp(maxSteps:=999999) (disch:=omega) only[go_sem,ξ,ζ,e1,e2]
 all_goals rfl
theorem Box_yes {h0 h:PH} [Le h0 h] {a a':Option Addr} {m m' c c':Nat} (k:∀{h} [Le h0 h],Spec mach 57 #[.slice a m c,.slice a' m' c'] h (fun r _=>r=.bool true) NP):Spec mach 22 #[.slice a m c,.int .i64 0,.slice a' m' c',.int .i64 0] h (fun r _=>r=.bool true) NP:=by
 refine Spec.go [] Tryz.func22 rfl rfl (by kernel_rfl) fun C _=>?_
 try simp(maxSteps:=999999) (disch:=omega) only[go_sem,ξ,ζ]
 refine caN (by exact k) ?_;rintro v1 h1 s1 rfl
 try simp(maxSteps:=999999) (disch:=omega) only[go_sem,ξ,ζ]
theorem Points_law {h0 h:PH} [Le h0 h] {v w:Value} {b:List Sd1} {p:List Pv1} (hv:Boxv h0 v b) (hw:Ptv h0 w p):Spec mach 7 #[v,w] h (fun r _=>r=.bool true) NP:=by
 have k1:=fun {h} [Le h0 h]=>Holds_p (h:=h) hv hw
 have k2:=fun {h} [Le h0 h]=>Holds_r (h:=h) hv hw
 have k3:=fun {h} [Le h0 h]=>At_p (h:=h) hv hw
 have k4:=fun {h} [Le h0 h]=>At_r (h:=h) hv hw
 have e1:((holR b p).1 == (holR b p).1)=true:=by simp
 have e2:((holR b p).2 == (holR b p).2)=true:=by simp
 obtain⟨_,_,_,rfl⟩:=hv.sa
 obtain⟨_,_,_,rfl⟩:=hw.sa
 unfold AtR at k3 k4
 cases g:atOk b p with
 | false=>
  rw[g] at k3 k4
  refine Spec.go [] Tryz.func7 rfl rfl (by kernel_rfl) fun C _=>?_
  try simp(maxSteps:=999999) (disch:=omega) only[go_sem,ξ,ζ]
  refine caN (by exact k1) ?_;rintro v1 h1 s1 rfl
  try simp(maxSteps:=999999) (disch:=omega) only[go_sem,ξ,ζ]
  refine caN (by exact k2) ?_;rintro v2 h2 s2 rfl
  try simp(maxSteps:=999999) (disch:=omega) only[go_sem,ξ,ζ]
  refine caN (by exact k3) ?_;rintro v3 h3 s3 rfl
  try simp(maxSteps:=999999) (disch:=omega) only[go_sem,ξ,ζ]
  refine caN (by exact k4) ?_;rintro v4 h4 s4 rfl
  try simp(maxSteps:=999999) (disch:=omega) only[go_sem,ξ,ζ,e1,e2]
  refine caN (by exact Box_no (by decide)) ?_;rintro v5 h5 s5 rfl
  try simp(maxSteps:=999999) (disch:=omega) only[go_sem,ξ,ζ]
  refine caN (by exact awake05_spec) ?_;rintro v8 h8 s8 rfl
  try simp(maxSteps:=999999) (disch:=omega) only[go_sem,ξ,ζ]
  all_goals rfl
 | true=>
  rw[g] at k3 k4
  refine Spec.go [] Tryz.func7 rfl rfl (by kernel_rfl) fun C _=>?_
  try simp(maxSteps:=999999) (disch:=omega) only[go_sem,ξ,ζ]
  refine caN (by exact k1) ?_;rintro v1 h1 s1 rfl
  try simp(maxSteps:=999999) (disch:=omega) only[go_sem,ξ,ζ]
  refine caN (by exact k2) ?_;rintro v2 h2 s2 rfl
  try simp(maxSteps:=999999) (disch:=omega) only[go_sem,ξ,ζ]
  refine caN (by exact k3) ?_;rintro v3 h3 s3 ⟨u,rfl,q3⟩;have q3':=q3;obtain⟨_,_,rfl,_⟩:=q3'
  try simp(maxSteps:=999999) (disch:=omega) only[go_sem,ξ,ζ]
  refine caN (by exact k4) ?_;rintro v4 h4 s4 ⟨u',rfl,q4⟩;have q4':=q4;obtain⟨_,_,rfl,_⟩:=q4'
  try simp(maxSteps:=999999) (disch:=omega) only[go_sem,ξ,ζ,e1,e2]
  refine caN (by exact Box_yes (h0:=h4) (fun {h} _=>Same_pts g (q3.to (h':=h4)) q4)) ?_;rintro v5 h5 s5 rfl
  try simp(maxSteps:=999999) (disch:=omega) only[go_sem,ξ,ζ]
  refine caN (by exact awake05_spec) ?_;rintro v8 h8 s8 rfl
  try simp(maxSteps:=999999) (disch:=omega) only[go_sem,ξ,ζ]
  all_goals rfl
end Go.Q
