/-
  Points in boxes, and what stands on it. Conditions: each theorem's own.
-/
import Derived.Test.YtpipfclemmbmcaaGreatDoorK747706PkG
import Derived.Test.YtpipfclemmbmcaaGreatDoorK659339PkO
import Derived.Test.YtpipfclemmbmcaaGreatDoorK3e8d59PkI
import Derived.Test.YtpipfclemmbmcaaGreatDoorKcf3b7fPkA
import Derived.Test.YtpipfclemmbmcaaGreatDoorKb333b1PkN
import Derived.Test.YtpipfclemmbmcaaGreatDoorK3984f3PkD
set_option linter.unusedVariables false
set_option linter.unusedSimpArgs false
open Nat renaming reduceBEq→ξ,reduceAdd→ζ,le_trans→χ,le_refl→η,zero_le→qBh,mod_eq_of_lt→qBi,lt_or_ge→qBj
open Bool renaming and_eq_true→φ
open List renaming all_eq_true→qBd
namespace Go.Q
open Go.Proofs
set_option maxRecDepth 100000
set_option maxHeartbeats 8000000
def inS (b:List Sd1) (p:List Pv1) (i:Nat):Bool:=match b[i]?,p[i]? with
 |some x,some y=>y.1.toList == x.1.toList && x.2.set.has (qof y.2.1 y.2.2.1 y.2.2.2)
 |_,_=>true
def inB (b:List Sd1) (p:List Pv1):Bool:=decide (p.length=b.length) && (List.range p.length).all (inS b p)
theorem inB_no {b:List Sd1} {p:List Pv1} {i:Nat} (hi:i < p.length) (h:inS b p i=false):inB b p=false:=by
 unfold inB
 rw[Bool.and_eq_false_iff]
 exact .inr (List.all_eq_false.2 ⟨i,List.mem_range.2 hi,by rw[h];decide⟩)
theorem inB_yes {b:List Sd1} {p:List Pv1} (hl:p.length=b.length) (h:∀j,j < p.length→inS b p j=true):inB b p=true:=by
 unfold inB
 rw[decide_eq_true hl,Bool.true_and]
 exact qBd.2 fun j hj=>h j (List.mem_range.1 hj)
theorem okP_big {l:List Pv1} (h:okP l=true) {i:Nat} {x:Pv1} (hx:l[i]?=some x):¬lg x.2.1 x.2.2.1 x.2.2.2:=by
 have:=qBd.1 h i (List.mem_range.2 (List.getElem?_eq_some_iff.1 hx).1)
 unfold okP1 at this
 rw[hx] at this
 simp only[φ,Bool.not_eq_true',decide_eq_false_iff_not] at this
 exact this.2
theorem InBox_p {h0 h:PH} [Le h0 h] {v w:Value} {b:List Sd1} {p:List Pv1} (hv:Boxv h0 v b) (hw:Ptv h0 w p) (hb:okB b=true) (hp:okP p=true):Spec mach 63 #[v,w] h (fun r _=>r=.bool (inB b p)) NP:=by
 obtain⟨a,c,rfl,hl,k⟩:=hv.side
 obtain⟨a',c',rfl,hl',k'⟩:=hw
 by_cases hn:p.length=b.length
 ·have en : ((p.length:Int) != (b.length:Int))=false:=by simp[hn]
  refine Spec.go [] Tryz.func63 rfl rfl (by kernel_rfl) fun C _=>?_
  try simp(maxSteps:=999999) (disch:=omega) only[go_sem,ξ,ζ,en]
  refine lp [] (fun i:Nat=>⟨[(0,.v (.slice a b.length c)),(14,.v (.slice a' p.length c')),(15,.v (.int .i64 p.length)),(16,.v (.int .i64 i))],[]⟩) (fun i h'=>Le h0 h'∧i≤p.length∧∀j,j < i→inS b p j=true) (fun i=>p.length - i) 0 ?_ ⟨inferInstance,qBh _,fun j hj=>absurd hj (by omega)⟩ (by kernel_rfl) ?_
  ·try simp(maxSteps:=999999) (disch:=omega) only[go_sem,ξ,ζ]
   all_goals rfl
  rintro i h2 ⟨le2,hi,hj⟩
  by_cases hlt:(i:Int) < p.length
  ·obtain⟨y,hy⟩:∃y,p[i]?=some y:=⟨_,List.getElem?_eq_getElem (by omega)⟩
   obtain⟨x,hx⟩:∃x,b[i]?=some x:=⟨_,List.getElem?_eq_getElem (by omega)⟩
   obtain⟨ad,a1,m1,c1,a2,m2,c2,a3,m3,c3,a4,m4,c4,rfl,hat,r1,r2,hiv⟩:=k i x hx
   obtain⟨ad',b1,n1,d1,b2,n2,d2,rfl,hat',hr⟩:=k' i y hy
   have hlb:(i:Int) < b.length:=by omega
   have hx0:h0.at (ad.add (i*9))=some (.string x.1):=hat 0 _ rfl
   have eS:inS b p i=(y.1.toList == x.1.toList && x.2.set.has (qof y.2.1 y.2.2.1 y.2.2.2)):=by unfold inS;rw[hx,hy]
   have hi':i < p.length:=by omega
   try simp(maxSteps:=999999) (disch:=omega) only[go_sem,ξ,ζ,hlt,decide_true]
   refine Exists.intro [_,_,_,_] (And.intro rfl (And.intro (fun j v hj=>le2.sub.at (hat' j v hj)) ?_))
   try simp(maxSteps:=999999) (disch:=omega) only[go_sem,ξ,ζ]
   refine aE (le2.sub.at hx0) ?_
   try simp(maxSteps:=999999) (disch:=omega) only[go_sem,ξ,ζ]
   cases hE:(y.1.toList == x.1.toList) with
   | false=>
    rw[inB_no hi' (by rw[eS,hE];rfl)]
    try simp(maxSteps:=999999) (disch:=omega) only[go_sem,ξ,ζ,hE]
   | true=>
    try simp(maxSteps:=999999) (disch:=omega) only[go_sem,ξ,ζ,hE]
    refine Exists.intro [_,_,_,_,_,_,_,_] (And.intro rfl (And.intro (fun j v hj=>by rw[add_1];exact le2.sub.at (hat (j+1) v hj)) ?_))
    try simp(maxSteps:=999999) (disch:=omega) only[go_sem,ξ,ζ]
    have kH:=wP (h0:=h2) (h:=h2) hiv.to hr.to
    unfold hasO at kH
    rw[okB_big hb hx,decide_eq_false (okP_big hp hy),Bool.or_false,cond_false] at kH
    refine caN (by exact kH) ?_;rintro v4 h4 s4 q4;obtain rfl:v4=_:=q4
    try simp(maxSteps:=999999) (disch:=omega) only[go_sem,ξ,ζ]
    cases hH:x.2.set.has (qof y.2.1 y.2.2.1 y.2.2.2) with
    | false=>
     rw[inB_no hi' (by rw[eS,hE,hH];rfl)]
     try simp(maxSteps:=999999) (disch:=omega) only[go_sem,ξ,ζ,hH]
    | true=>
     try simp(maxSteps:=999999) (disch:=omega) only[go_sem,ξ,ζ,hH]
     dsimp only[lpE];refine⟨i+1,?_,⟨inferInstance,by omega,fun j k=>?_⟩,by omega⟩
     ·try simp(maxSteps:=999999) (disch:=omega) only[go_sem,ξ,ζ]
      all_goals rfl
     ·rcases qBj j i with g |g
      ·exact hj j g
      ·obtain rfl:j=i:=by omega
       rw[eS,hE,hH];rfl
  ·rw[inB_yes hn (fun j k=>hj j (by omega))]
   try simp(maxSteps:=999999) (disch:=omega) only[go_sem,ξ,ζ,hlt,decide_false]
 ·have en:((p.length:Int) != (b.length:Int))=true:=by simp;omega
  rw[show inB b p=false by unfold inB;rw[decide_eq_false hn];rfl]
  refine Spec.go [] Tryz.func63 rfl rfl (by kernel_rfl) fun C _=>?_
  try simp(maxSteps:=999999) (disch:=omega) only[go_sem,ξ,ζ,en]
theorem InBox_r {h0 h:PH} [Le h0 h] {v w:Value} {b:List Sd1} {p:List Pv1} (hv:Boxv h0 v b) (hw:Ptv h0 w p) (hb:okB b=true) (hp:okP p=true):Spec mach 65 #[v,w] h (fun r _=>r=.bool (inB b p)) NP:=by
 obtain⟨a,c,rfl,hl,k⟩:=hv.side
 obtain⟨a',c',rfl,hl',k'⟩:=hw
 by_cases hn:p.length=b.length
 ·have en : ((b.length:Int) != (p.length:Int))=false:=by simp[hn]
  refine Spec.go [(6,.o [0,1,2,3,4,5,6,7,8,9,10,12,13,14,15,16,11,17,18,19,20])] Tryz.func65 rfl rfl (by kernel_rfl) fun C _=>?_
  try simp(maxSteps:=999999) (disch:=omega) only[go_sem,ξ,ζ,en]
  refine lp [(6,.o [0,1,2,3,4,5,6,7,8,9,10,12,13,14,15,16,11,17,18,19,20])] (fun i:Nat=>⟨[(1,.v (.slice a' p.length c')),(12,.v (.slice a b.length c)),(13,.v (.int .i64 b.length)),(14,.v (.int .i64 i))],[]⟩) (fun i h'=>Le h0 h'∧i≤p.length∧∀j,j < i→inS b p j=true) (fun i=>p.length - i) 0 ?_ ⟨inferInstance,qBh _,fun j hj=>absurd hj (by omega)⟩ (by kernel_rfl) ?_
  ·try simp(maxSteps:=999999) (disch:=omega) only[go_sem,ξ,ζ]
   all_goals rfl
  rintro i h2 ⟨le2,hi,hj⟩
  by_cases hlt:(i:Int) < b.length
  ·obtain⟨y,hy⟩:∃y,p[i]?=some y:=⟨_,List.getElem?_eq_getElem (by omega)⟩
   obtain⟨x,hx⟩:∃x,b[i]?=some x:=⟨_,List.getElem?_eq_getElem (by omega)⟩
   obtain⟨ad,a1,m1,c1,a2,m2,c2,a3,m3,c3,a4,m4,c4,rfl,hat,r1,r2,hiv⟩:=k i x hx
   obtain⟨ad',b1,n1,d1,b2,n2,d2,rfl,hat',hr⟩:=k' i y hy
   have hlp:(i:Int) < p.length:=by omega
   have hy0:h0.at (ad'.add (i*4))=some (.string y.1):=hat' 0 _ rfl
   have eS:inS b p i=(y.1.toList == x.1.toList && x.2.set.has (qof y.2.1 y.2.2.1 y.2.2.2)):=by unfold inS;rw[hx,hy]
   have hi':i < p.length:=by omega
   have gb:=okB_big hb hx
   have gp:=okP_big hp hy
   have sq:sz (qof y.2.1 y.2.2.1 y.2.2.2)≤2048:=by unfold lg at gp;omega
   try simp(maxSteps:=999999) (disch:=omega) only[go_sem,ξ,ζ,hlt,decide_true]
   refine Exists.intro [_,_,_,_,_,_,_,_,_] (And.intro rfl (And.intro (fun j v hj=>le2.sub.at (hat j v hj)) ?_))
   try simp(maxSteps:=999999) (disch:=omega) only[go_sem,ξ,ζ]
   refine aE (le2.sub.at hy0) ?_
   try simp(maxSteps:=999999) (disch:=omega) only[go_sem,ξ,ζ]
   cases hE:(y.1.toList == x.1.toList) with
   | false=>
    rw[inB_no hi' (by rw[eS,hE];rfl)]
    try simp(maxSteps:=999999) (disch:=omega) only[go_sem,ξ,ζ,hE]
   | true=>
    try simp(maxSteps:=999999) (disch:=omega) only[go_sem,ξ,ζ,hE]
    refine Exists.intro [_,_,_] (And.intro rfl (And.intro (fun j v hj=>by rw[add_1];exact le2.sub.at (hat' (j+1) v hj)) ?_))
    try simp(maxSteps:=999999) (disch:=omega) only[go_sem,ξ,ζ]
    refine caN (by exact RefOf (hiv.to (h':=h2)) gb) ?_;rintro _ h5 _ f5;obtain⟨_,_,_,_,_,_,_,_,_,_,_,_,_,_,rfl,f5⟩:=f5.sa
    try simp(maxSteps:=999999) (disch:=omega) only[go_sem,ξ,ζ]
    refine caN (by exact bM (hr.to (h':=h5))) ?_;rintro _ h6 _ f6;obtain⟨_,_,_,_,_,_,_,rfl,f6⟩:=f6.sa
    try simp(maxSteps:=999999) (disch:=omega) only[go_sem,ξ,ζ]
    refine caN (by exact RefIn (f5.to (h':=h6)) f6 ((RI.le gb).up (by decide)) (by omega)) ?_;rintro v7 h7 s7 rfl
    try simp(maxSteps:=999999) (disch:=omega) only[go_sem,ξ,ζ]
    cases hH:x.2.set.has (qof y.2.1 y.2.2.1 y.2.2.2) with
    | false=>
     rw[inB_no hi' (by rw[eS,hE,hH];rfl)]
     try simp(maxSteps:=999999) (disch:=omega) only[go_sem,ξ,ζ,hH]
    | true=>
     try simp(maxSteps:=999999) (disch:=omega) only[go_sem,ξ,ζ,hH]
     dsimp only[lpE];refine⟨i+1,?_,⟨inferInstance,by omega,fun j k=>?_⟩,by omega⟩
     ·try simp(maxSteps:=999999) (disch:=omega) only[go_sem,ξ,ζ]
      all_goals rfl
     ·rcases qBj j i with g |g
      ·exact hj j g
      ·obtain rfl:j=i:=by omega
       rw[eS,hE,hH];rfl
  ·rw[inB_yes hn (fun j k=>hj j (by omega))]
   try simp(maxSteps:=999999) (disch:=omega) only[go_sem,ξ,ζ,hlt,decide_false]
 ·have en:((b.length:Int) != (p.length:Int))=true:=by simp;omega
  rw[show inB b p=false by unfold inB;rw[decide_eq_false hn];rfl]
  refine Spec.go [(6,.o [0,1,2,3,4,5,6,7,8,9,10,12,13,14,15,16,11,17,18,19,20])] Tryz.func65 rfl rfl (by kernel_rfl) fun C _=>?_
  try simp(maxSteps:=999999) (disch:=omega) only[go_sem,ξ,ζ,en]
def holR (b:List Sd1) (p:List Pv1):Bool×Int:=bif okB b && okP p then (inB b p,0) else (false,50)
theorem Holds_p {h0 h:PH} [Le h0 h] {v w:Value} {b:List Sd1} {p:List Pv1} (hv:Boxv h0 v b) (hw:Ptv h0 w p):Spec mach 25 #[v,w] h (fun r _=>r=.tuple #[.bool (holR b p).1,.int .i64 (holR b p).2]) NP:=by
 have kV:=fun {h} [Le h0 h]=>BValid_spec (h:=h) hv
 have kP:=fun {h} [Le h0 h]=>IsPoint_spec (h:=h) hw
 have kI:=fun(g1:okB b=true) (g2:okP p=true) {h} [Le h0 h]=>InBox_p (h:=h) hv hw g1 g2
 unfold holR
 obtain⟨_,_,_,rfl⟩:=hv.sa
 obtain⟨_,_,_,rfl⟩:=hw.sa
 cases g1:okB b with
 | false=>
  rw[g1] at kV
  refine Spec.go [] Tryz.func25 rfl rfl (by kernel_rfl) fun C _=>?_
  try simp(maxSteps:=999999) (disch:=omega) only[go_sem,ξ,ζ]
  refine caN (by exact kV) ?_;rintro v1 h1 s1 rfl
  try simp(maxSteps:=999999) (disch:=omega) only[go_sem,ξ,ζ]
  all_goals rfl
 | true=>
  rw[g1] at kV
  cases g2:okP p with
  | false=>
   rw[g2] at kP
   refine Spec.go [] Tryz.func25 rfl rfl (by kernel_rfl) fun C _=>?_
   try simp(maxSteps:=999999) (disch:=omega) only[go_sem,ξ,ζ]
   refine caN (by exact kV) ?_;rintro v1 h1 s1 rfl
   try simp(maxSteps:=999999) (disch:=omega) only[go_sem,ξ,ζ]
   refine caN (by exact kP) ?_;rintro v2 h2 s2 rfl
   try simp(maxSteps:=999999) (disch:=omega) only[go_sem,ξ,ζ]
   all_goals rfl
  | true=>
   rw[g2] at kP
   refine Spec.go [] Tryz.func25 rfl rfl (by kernel_rfl) fun C _=>?_
   try simp(maxSteps:=999999) (disch:=omega) only[go_sem,ξ,ζ]
   refine caN (by exact kV) ?_;rintro v1 h1 s1 rfl
   try simp(maxSteps:=999999) (disch:=omega) only[go_sem,ξ,ζ]
   refine caN (by exact kP) ?_;rintro v2 h2 s2 rfl
   try simp(maxSteps:=999999) (disch:=omega) only[go_sem,ξ,ζ]
   refine caN (by exact kI g1 g2) ?_;rintro v3 h3 s3 rfl
   try simp(maxSteps:=999999) (disch:=omega) only[go_sem,ξ,ζ]
   all_goals rfl
theorem Holds_r {h0 h:PH} [Le h0 h] {v w:Value} {b:List Sd1} {p:List Pv1} (hv:Boxv h0 v b) (hw:Ptv h0 w p):Spec mach 26 #[v,w] h (fun r _=>r=.tuple #[.bool (holR b p).1,.int .i64 (holR b p).2]) NP:=by
 have kV:=fun {h} [Le h0 h]=>RBValid_spec (h:=h) hv
 have kP:=fun {h} [Le h0 h]=>GoodPoint_spec (h:=h) hw
 have kI:=fun(g1:okB b=true) (g2:okP p=true) {h} [Le h0 h]=>InBox_r (h:=h) hv hw g1 g2
 unfold holR
 obtain⟨_,_,_,rfl⟩:=hv.sa
 obtain⟨_,_,_,rfl⟩:=hw.sa
 cases g1:okB b with
 | false=>
  rw[g1] at kV
  refine Spec.go [] Tryz.func26 rfl rfl (by kernel_rfl) fun C _=>?_
  try simp(maxSteps:=999999) (disch:=omega) only[go_sem,ξ,ζ]
  refine caN (by exact kV) ?_;rintro v1 h1 s1 rfl
  try simp(maxSteps:=999999) (disch:=omega) only[go_sem,ξ,ζ]
  all_goals rfl
 | true=>
  rw[g1] at kV
  cases g2:okP p with
  | false=>
   rw[g2] at kP
   refine Spec.go [] Tryz.func26 rfl rfl (by kernel_rfl) fun C _=>?_
   try simp(maxSteps:=999999) (disch:=omega) only[go_sem,ξ,ζ]
   refine caN (by exact kV) ?_;rintro v1 h1 s1 rfl
   try simp(maxSteps:=999999) (disch:=omega) only[go_sem,ξ,ζ]
   refine caN (by exact kP) ?_;rintro v2 h2 s2 rfl
   try simp(maxSteps:=999999) (disch:=omega) only[go_sem,ξ,ζ]
   all_goals rfl
  | true=>
   rw[g2] at kP
   refine Spec.go [] Tryz.func26 rfl rfl (by kernel_rfl) fun C _=>?_
   try simp(maxSteps:=999999) (disch:=omega) only[go_sem,ξ,ζ]
   refine caN (by exact kV) ?_;rintro v1 h1 s1 rfl
   try simp(maxSteps:=999999) (disch:=omega) only[go_sem,ξ,ζ]
   refine caN (by exact kP) ?_;rintro v2 h2 s2 rfl
   try simp(maxSteps:=999999) (disch:=omega) only[go_sem,ξ,ζ]
   refine caN (by exact kI g1 g2) ?_;rintro v3 h3 s3 rfl
   try simp(maxSteps:=999999) (disch:=omega) only[go_sem,ξ,ζ]
   all_goals rfl
section
variable {M:Mach} {C:Ctx} {n:Nat} {S:AS} {h:PH} {Q:Exit→AS→PH→Prop} {E:List PanicEntry→PH→Prop}
theorem order_o (l:List Nat):order (l.map .o)=l:=by
 induction l with
 |nil=>rfl
 |cons x l ih=>simp[order,ih]
theorem apO {id:Nat} {ops:Array Oper} {b:Bool} {d:Nat} {x y:Operand} {T U V:TypeId} {ps:String} {ar:Array Edge} {sz:Nat} (pl1:List Nat) (i:Nat) (pl2:List Nat) (hi:nth ops.toList i=some ⟨some d,.call {callee:=.builtin .append,args:=#[x,y],argTypes:=#[T,U]},V,ps,ar,none⟩)
  (hU:uk M.P U=.slice) (hz:mkN M.P T sz=true) (hc:(bif b then fi ops (pl1 ++i :: pl2) else (pl1 ++i :: pl2) == List.range ops.size)=true) (hd:d < n) (h1:(prep n ops (pl1.map .o)).isSome=true) (h2:(prep n ops (pl2.map .o)).isSome=true)
  (hw:walkO M E ops.toList (pickO ops.toList pl1) (fun S h=>appN sz S h (S.ev x) (S.ev y) fun S h v=>walkO M E ops.toList (pickO ops.toList pl2) (fun S h=>Q .normal S h) (S.put (some d) v) h) S h):AWP M n C (.region id ops b) Q E S h:=by
 obtain⟨l1,e1⟩:=Option.isSome_iff_exists.1 h1
 obtain⟨l2,e2⟩:=Option.isSome_iff_exists.1 h2
 simp only[oE pl2 l2 e2] at hw
 rw[oE pl1 l1 e1] at hw
 cases b with
 |true=>exact AWP_apD (pl1.map .o) i (pl2.map .o) hi hU hz (by rw[order_o,order_o];exact hc) hd e1 e2 hw
 |false=>exact AWP_app (pl1.map .o) i (pl2.map .o) hi hU hz (by rw[order_o,order_o];exact beq_iff_eq.1 hc) hd e1 e2 hw
end
theorem pt_fin {b:Bool} {n d:Nat} (w:¬lg b n d):RI.fin ⟨b,n,d,b,n,d,false,false⟩ (.ok (RI.set ⟨b,n,d,b,n,d,false,false⟩))=.ok (.i (some (qof b n d)) (some (qof b n d))):=by
 have e1:RI.set ⟨b,n,d,b,n,d,false,false⟩=.i (some (qof b n d)) (some (qof b n d)):=by
  show NS.mk' (some (qof b n d)) (some (qof b n d))=_
  have:ordO (some (qof b n d)) (some (qof b n d))=true:=by simp[ordO]
  unfold NS.mk';rw[this];rfl
 have g:RI.big ⟨b,n,d,b,n,d,false,false⟩=false:=by simp[RI.big,w]
 have l:(NS.i (some (qof b n d)) (some (qof b n d))).le 2048:=by rw[←e1];exact RI.le g
 rw[e1]
 unfold RI.fin
 rw[g]
 show Out.fin (.ok _)=_
 unfold Out.fin
 simp[l]
def Qp (h:PH) (cs:List Value) (s:ByteArray×Rat):Prop:=∃ds:List Value,cs=.string s.1 :: ds∧ds.length=8∧Cv h (.agg ds.toArray) (.i (some s.2) (some s.2))
def Pbx (h:PH) (v:Value) (l:List (ByteArray×Rat)):Prop:=∃a c,v=.slice a l.length c∧∀i s,l[i]?=some s→∃ad cs,a=some ad∧Qp h cs s∧∀j v,cs[j]?=some v→h.at ((ad.add (i*9)).add j)=some v
theorem Pbx.of {h:PH} {b c:Nat} {row:List Value} {l:List (ByteArray×Rat)} (hb:h b=some row.toArray) (hr:RowOf 9 (Qp h) row l):Pbx h (.slice (some ⟨b,0,none⟩) l.length c) l:=by
 refine⟨_,_,rfl,fun i s hi=>⟨_,_,rfl,hr.2 i s hi,fun j v hj=>?_⟩⟩
 rw[at_off hb]
 rw[List.getElem?_take] at hj
 split at hj
 ·rw[List.getElem?_drop] at hj
  simpa using hj
 ·cases hj
def nq (y:Pv1):ByteArray×Rat:=(y.1,qof y.2.1 y.2.2.1 y.2.2.2)
theorem take_map {p:List Pv1} {i:Nat} {y:Pv1} (hy:p[i]?=some y):(p.take (i+1)).map nq=(p.take i).map nq ++[nq y]:=by
 rw[List.take_add_one,hy];simp
theorem PointBox_spec {h0 h:PH} [Le h0 h] {w:Value} {p:List Pv1} (hw:Ptv h0 w p) (hp:okP p=true) (h6:p.length≤6):Spec mach 66 #[w] h (fun r h'=>∃u,r=.tuple #[u,.int .i64 0]∧Pbx h' u (p.map nq)) NP:=by
 obtain⟨a,c,rfl,hl,k⟩:=hw
 refine Spec.go [(8,.x),(10,.x)] Tryz.func66 rfl rfl (by kernel_rfl) fun C _=>?_
 try simp(maxSteps:=999999) (disch:=omega) only[go_sem,ξ,ζ]
 refine lpSl [(8,.x),(10,.x)] (fun x:Option (Nat×Nat×List Value)=>match x with |none=>⟨[(4,.v (.slice none 0 0)),(9,.v (.slice a p.length c)),(10,.v (.int .i64 p.length)),(11,.v (.int .i64 0))],[]⟩ |some x=>⟨[(4,.s 0 0 x.1 x.2.1),(9,.v (.slice a p.length c)),(10,.v (.int .i64 p.length)),(11,.v (.int .i64 x.1))],[x.2.2]⟩) (fun x h'=>Le h0 h'∧match x with |none=>True |some x=>1≤x.1∧x.1≤p.length∧x.1≤x.2.1∧x.2.1*9=x.2.2.length∧RowOf 9 (Qp h') x.2.2 ((p.take x.1).map nq)) (fun x=>match x with |none=>p.length |some x=>p.length - x.1) none [] ?_ ⟨inferInstance,trivial⟩ (by kernel_rfl) ?_
 ·try simp(maxSteps:=999999) (disch:=omega) only[go_sem,ξ,ζ]
  all_goals rfl
 rintro(_ |⟨i,cap,row⟩) h2 ⟨le2,hr0⟩
 ·dsimp only
  by_cases hl:(0:Int) < (p.length:Int)
  ·obtain⟨y,hy⟩:∃y,p[0]?=some y:=⟨_,List.getElem?_eq_getElem (by omega)⟩
   obtain⟨ad,b1,n1,d1,b2,n2,d2,rfl,hat,hr⟩:=k 0 y hy
   have gp:=okP_big hp hy
   try simp(maxSteps:=999999) (disch:=omega) only[go_sem,ξ,ζ,hl,decide_true]
   refine Exists.intro [_,_,_,_] (And.intro rfl (And.intro (fun j v hj=>le2.sub.at (hat j v hj)) ?_))
   try simp(maxSteps:=999999) (disch:=omega) only[go_sem,ξ,ζ]
   have kP:=EE (h0:=h2) (h:=h2) hr.to
   rw[pt_fin gp] at kP
   refine caN (by exact kP) ?_;rintro r h3 s3 r3;obtain⟨u,rfl,c3⟩:=r3;obtain⟨x1,x2,x3,x4,x5,x6,x7,x8,x9,x10,x11,x12,x13,x14,x15,x16,rfl,c3⟩:=c3.sa
   try simp(maxSteps:=999999) (disch:=omega) only[go_sem,ξ,ζ]
   refine AWP_app (sz:=9) [.o 0,.o 1,.o 2,.o 3,.o 4,.o 5] 6 [.o 7] rfl (by kernel_rfl) (by kernel_rfl) (by rfl) (by decide) rfl rfl ?_
   try simp(maxSteps:=999999) (disch:=omega) only[go_sem,ξ,ζ,walk,appN,Nat.reduceMul]
   intro cap junk hc hj
   have hR:RowOf 9 (Qp h3) ([.string y.1,.bool x1,.slice x2 x3 x4,.slice x5 x6 x7,.bool x8,.slice x9 x10 x11,.slice x12 x13 x14,.bool x15,.bool x16] ++junk) ((p.take 1).map nq):=by
    rw[take_map hy]
    exact(RowOf.nil (sz:=9) (Q:=Qp h3) (row:=[])).app (cs:=[.string y.1,.bool x1,.slice x2 x3 x4,.slice x5 x6 x7,.bool x8,.slice x9 x10 x11,.slice x12 x13 x14,.bool x15,.bool x16]) (s:=nq y) rfl ⟨_,rfl,rfl,c3⟩ junk
   dsimp only[lpS]
   refine⟨some (1,cap,[.string y.1,.bool x1,.slice x2 x3 x4,.slice x5 x6 x7,.bool x8,.slice x9 x10 x11,.slice x12 x13 x14,.bool x15,.bool x16] ++junk),[3],?_,⟨inferInstance,η 1,by show 1≤p.length;omega,hc,by simp;omega,hR⟩,by show p.length - 1 < p.length;omega⟩
   try simp(maxSteps:=999999) (disch:=omega) only[go_sem,ξ,ζ]
   all_goals rfl
  ·try simp(maxSteps:=999999) (disch:=omega) only[go_sem,ξ,ζ,hl,decide_false]
   refine rn [] (by kernel_rfl) ?_
   try simp(maxSteps:=999999) (disch:=omega) only[go_sem,ξ,ζ]
   have e:p=[]:=List.length_eq_zero_iff.1 (by omega)
   subst e
   exact⟨_,rfl,_,_,rfl,fun i s hi=>by simp at hi⟩
 ·obtain⟨g1,g2,g3,g4,g5⟩:=hr0
  dsimp only at g1 g2 g3 g4 g5 ⊢
  by_cases hl:(i:Int) < (p.length:Int)
  ·obtain⟨y,hy⟩:∃y,p[i]?=some y:=⟨_,List.getElem?_eq_getElem (by omega)⟩
   obtain⟨ad,b1,n1,d1,b2,n2,d2,rfl,hat,hr⟩:=k i y hy
   have gp:=okP_big hp hy
   try simp(maxSteps:=999999) (disch:=omega) only[go_sem,ξ,ζ,hl,decide_true]
   refine Exists.intro [_,_,_,_] (And.intro rfl (And.intro (fun j v hj=>le2.sub.at (hat j v hj)) ?_))
   try simp(maxSteps:=999999) (disch:=omega) only[go_sem,ξ,ζ]
   have kP:=EE (h0:=h2) (h:=h2) hr.to
   rw[pt_fin gp] at kP
   refine caN (by exact kP) ?_;rintro r h3 s3 r3;obtain⟨u,rfl,c3⟩:=r3;obtain⟨x1,x2,x3,x4,x5,x6,x7,x8,x9,x10,x11,x12,x13,x14,x15,x16,rfl,c3⟩:=c3.sa
   try simp(maxSteps:=999999) (disch:=omega) only[go_sem,ξ,ζ]
   refine AWP_app (sz:=9) [.o 0,.o 1,.o 2,.o 3,.o 4,.o 5] 6 [.o 7] rfl (by kernel_rfl) (by kernel_rfl) (by rfl) (by decide) rfl rfl ?_
   try simp(maxSteps:=999999) (disch:=omega) only[go_sem,ξ,ζ,walk,appN,Nat.reduceMul]
   intro cap' junk hc hj
   have hR:RowOf 9 (Qp h3) (row.take (i*9) ++[.string y.1,.bool x1,.slice x2 x3 x4,.slice x5 x6 x7,.bool x8,.slice x9 x10 x11,.slice x12 x13 x14,.bool x15,.bool x16] ++junk) ((p.take (i+1)).map nq):=by
    rw[take_map hy]
    have:=(g5.mono fun cs s (q:Qp h2 cs s)=>(let ⟨ds,e1,e2,e3⟩:=q;⟨ds,e1,e2,e3.to⟩:Qp h3 cs s)).app (cs:=[.string y.1,.bool x1,.slice x2 x3 x4,.slice x5 x6 x7,.bool x8,.slice x9 x10 x11,.slice x12 x13 x14,.bool x15,.bool x16]) (s:=nq y) rfl ⟨_,rfl,rfl,c3⟩ junk
    rw[List.length_map,List.length_take,Nat.min_eq_left (by omega)] at this
    exact this
   dsimp only[lpS]
   refine⟨some (i+1,cap',row.take (i*9) ++[.string y.1,.bool x1,.slice x2 x3 x4,.slice x5 x6 x7,.bool x8,.slice x9 x10 x11,.slice x12 x13 x14,.bool x15,.bool x16] ++junk),[4],?_,⟨inferInstance,by show 1≤i+1;omega,by show i+1≤_;omega,hc,by simp;omega,hR⟩,by show p.length - (i+1) < p.length - i;omega⟩
   try simp(maxSteps:=999999) (disch:=omega) only[go_sem,ξ,ζ]
   all_goals rfl
  ·obtain rfl:i=p.length:=by omega
   rw[List.take_length] at g5
   try simp(maxSteps:=999999) (disch:=omega) only[go_sem,ξ,ζ,hl,decide_false]
   refine rn [(10,.t (.p 0 (.s [0,1,2] .d)))] (by kernel_rfl) ?_
   try simp(maxSteps:=999999) (disch:=omega) only[go_sem,ξ,ζ]
   intro b h3 st3 hb
   try simp(maxSteps:=999999) (disch:=omega) only[go_sem,ξ,ζ]
   have hb:=hb (fun e=>by rw[e] at g4;simp at g4;omega)
   have:=Pbx.of (c:=cap) hb (g5.mono fun cs s (q:Qp h2 cs s)=>(let ⟨ds,e1,e2,e3⟩:=q;⟨ds,e1,e2,e3.to⟩:Qp h3 cs s))
   rw[List.length_map] at this
   exact⟨_,rfl,this⟩
theorem OneSet_r {h0 h:PH} [Le h0 h] {v:Value} {q:Rat} (hv:Qr h0 v q):Spec mach 119 #[v] h (fun r h'=>Rr h' r (.i (some q) (some q))) NP:=by
 obtain⟨_,_,_,_,_,_,_,rfl,hv⟩:=hv.sa
 refine Spec.go [] Tryz.func119 rfl rfl (by kernel_rfl) fun C _=>?_
 try simp(maxSteps:=999999) (disch:=omega) only[go_sem,ξ,ζ]
 exact⟨_,_,_,_,_,_,rfl,hv.to,hv.to⟩
theorem add_2 {a:Addr} {j:Nat}:({block:=a.block,off:=a.off+1}:Addr).add j=(a.add 0).add (j+1):=by
 unfold Addr.add
 split<;>simp_all<;>omega
def zipQ (b:List Sd1) (p:List Pv1):List (ByteArray×Rat):=List.zipWith (fun x y=>(x.1,qof y.2.1 y.2.2.1 y.2.2.2)) b p
theorem take_one {α:Type} {l:List α} {i:Nat} {z:α} (hz:l[i]?=some z):l.take (i+1)=l.take i ++[z]:=by
 rw[List.take_add_one,hz];simp
theorem RAt_spec {h0 h:PH} [Le h0 h] {v w:Value} {b:List Sd1} {p:List Pv1} (hv:Boxv h0 v b) (hw:Ptv h0 w p) (hp:okP p=true) (hn:p.length=b.length) (h6:p.length≤6):Spec mach 67 #[v,w] h (fun u h'=>Pbx h' u (zipQ b p)) NP:=by
 obtain⟨a,c,rfl,hl,k⟩:=hv.side
 obtain⟨a',c',rfl,hl',k'⟩:=hw
 have hzl:(zipQ b p).length=b.length:=by unfold zipQ;rw[List.length_zipWith];omega
 refine Spec.go [(5,.x),(7,.x)] Tryz.func67 rfl rfl (by kernel_rfl) fun C _=>?_
 try simp(maxSteps:=999999) (disch:=omega) only[go_sem,ξ,ζ]
 refine lpSl [(5,.x),(7,.x)] (fun x:Option (Nat×Nat×List Value)=>match x with |none=>⟨[(1,.v (.slice a' p.length c')),(5,.v (.slice none 0 0)),(8,.v (.slice a b.length c)),(9,.v (.int .i64 b.length)),(10,.v (.int .i64 0))],[]⟩ |some x=>⟨[(1,.v (.slice a' p.length c')),(5,.s 0 0 x.1 x.2.1),(8,.v (.slice a b.length c)),(9,.v (.int .i64 b.length)),(10,.v (.int .i64 x.1))],[x.2.2]⟩) (fun x h'=>Le h0 h'∧match x with |none=>True |some x=>1≤x.1∧x.1≤b.length∧x.1≤x.2.1∧x.2.1*9=x.2.2.length∧RowOf 9 (Qp h') x.2.2 ((zipQ b p).take x.1)) (fun x=>match x with |none=>b.length |some x=>b.length - x.1) none [] ?_ ⟨inferInstance,trivial⟩ (by kernel_rfl) ?_
 ·try simp(maxSteps:=999999) (disch:=omega) only[go_sem,ξ,ζ]
  all_goals rfl
 rintro(_ |⟨i,cap,row⟩) h2 ⟨le2,hr0⟩
 ·dsimp only
  by_cases hl:(0:Int) < (b.length:Int)
  ·obtain⟨x,hx⟩:∃x,b[0]?=some x:=⟨_,List.getElem?_eq_getElem (by omega)⟩
   obtain⟨y,hy⟩:∃y,p[0]?=some y:=⟨_,List.getElem?_eq_getElem (by omega)⟩
   obtain⟨ad,a1,m1,c1,a2,m2,c2,a3,m3,c3,a4,m4,c4,rfl,hat,r1,r2,hiv⟩:=k 0 x hx
   obtain⟨ad',b1,n1,d1,b2,n2,d2,rfl,hat',hr⟩:=k' 0 y hy
   have hlp:(0:Int) < (p.length:Int):=by omega
   have gp:=okP_big hp hy
   have sq:sz (qof y.2.1 y.2.2.1 y.2.2.2)≤2048:=by unfold lg at gp;omega
   have hz:(zipQ b p)[0]?=some (x.1,qof y.2.1 y.2.2.1 y.2.2.2):=by unfold zipQ;rw[List.getElem?_zipWith,hx,hy]
   try simp(maxSteps:=999999) (disch:=omega) only[go_sem,ξ,ζ,hl,decide_true]
   refine Exists.intro [_,_,_,_,_,_,_,_,_] (And.intro rfl (And.intro (fun j v hj=>le2.sub.at (hat j v hj)) ?_))
   try simp(maxSteps:=999999) (disch:=omega) only[go_sem,ξ,ζ]
   refine apO (sz:=9) [0,1,2,3,4,5,6,7,8,9,10,11,12] 13 [14] rfl (by kernel_rfl) (by kernel_rfl) (by kernel_rfl) (by decide) (by kernel_rfl) (by kernel_rfl) ?_
   try simp(maxSteps:=999999) (disch:=omega) only[go_sem,ξ,ζ,appN,Nat.reduceMul]
   refine Exists.intro [_,_,_] (And.intro rfl (And.intro (fun j v hj=>by rw[add_2];exact le2.sub.at (hat' (j+1) v hj)) ?_))
   try simp(maxSteps:=999999) (disch:=omega) only[go_sem,ξ,ζ,appN,Nat.reduceMul]
   refine caN (by exact bM (hr.to (h':=h2))) ?_;rintro _ h3 _ f3;obtain⟨_,_,_,_,_,_,_,rfl,f3⟩:=f3.sa
   try simp(maxSteps:=999999) (disch:=omega) only[go_sem,ξ,ζ]
   refine caN (by exact OneSet_r f3) ?_;rintro _ h4 _ f4;obtain⟨_,_,_,_,_,_,_,_,_,_,_,_,_,_,rfl,f4⟩:=f4.sa
   try simp(maxSteps:=999999) (disch:=omega) only[go_sem,ξ,ζ]
   refine caN (by exact jp f4 (NS.le_one (by omega))) ?_;rintro u5 h5 s5 f5;obtain⟨x1,x2,x3,x4,x5,x6,x7,x8,x9,x10,x11,x12,x13,x14,x15,x16,rfl,c3⟩:=f5.sa
   try simp(maxSteps:=999999) (disch:=omega) only[go_sem,ξ,ζ,appN,Nat.reduceMul]
   intro cap junk hc hj
   have hR:RowOf 9 (Qp h5) ([.string x.1,.bool x1,.slice x2 x3 x4,.slice x5 x6 x7,.bool x8,.slice x9 x10 x11,.slice x12 x13 x14,.bool x15,.bool x16] ++junk) ((zipQ b p).take 1):=by
    rw[take_one hz]
    exact(RowOf.nil (sz:=9) (Q:=Qp h5) (row:=[])).app (cs:=[.string x.1,.bool x1,.slice x2 x3 x4,.slice x5 x6 x7,.bool x8,.slice x9 x10 x11,.slice x12 x13 x14,.bool x15,.bool x16]) (s:=(x.1,qof y.2.1 y.2.2.1 y.2.2.2)) rfl ⟨_,rfl,rfl,c3⟩ junk
   dsimp only[lpS]
   refine⟨some (1,cap,[.string x.1,.bool x1,.slice x2 x3 x4,.slice x5 x6 x7,.bool x8,.slice x9 x10 x11,.slice x12 x13 x14,.bool x15,.bool x16] ++junk),[2],?_,⟨inferInstance,η 1,by show 1≤b.length;omega,hc,by simp;omega,hR⟩,by show b.length - 1 < b.length;omega⟩
   try simp(maxSteps:=999999) (disch:=omega) only[go_sem,ξ,ζ]
   all_goals rfl
  ·try simp(maxSteps:=999999) (disch:=omega) only[go_sem,ξ,ζ,hl,decide_false]
   refine rn [] (by kernel_rfl) ?_
   try simp(maxSteps:=999999) (disch:=omega) only[go_sem,ξ,ζ]
   have e:zipQ b p=[]:=List.length_eq_zero_iff.1 (by omega)
   rw[e]
   exact⟨_,_,rfl,fun i s hi=>by simp at hi⟩
 ·obtain⟨g1,g2,g3,g4,g5⟩:=hr0
  dsimp only at g1 g2 g3 g4 g5 ⊢
  by_cases hl:(i:Int) < (b.length:Int)
  ·obtain⟨x,hx⟩:∃x,b[i]?=some x:=⟨_,List.getElem?_eq_getElem (by omega)⟩
   obtain⟨y,hy⟩:∃y,p[i]?=some y:=⟨_,List.getElem?_eq_getElem (by omega)⟩
   obtain⟨ad,a1,m1,c1,a2,m2,c2,a3,m3,c3,a4,m4,c4,rfl,hat,r1,r2,hiv⟩:=k i x hx
   obtain⟨ad',b1,n1,d1,b2,n2,d2,rfl,hat',hr⟩:=k' i y hy
   have hlp:(i:Int) < (p.length:Int):=by omega
   have gp:=okP_big hp hy
   have sq:sz (qof y.2.1 y.2.2.1 y.2.2.2)≤2048:=by unfold lg at gp;omega
   have hz:(zipQ b p)[i]?=some (x.1,qof y.2.1 y.2.2.1 y.2.2.2):=by unfold zipQ;rw[List.getElem?_zipWith,hx,hy]
   try simp(maxSteps:=999999) (disch:=omega) only[go_sem,ξ,ζ,hl,decide_true]
   refine Exists.intro [_,_,_,_,_,_,_,_,_] (And.intro rfl (And.intro (fun j v hj=>le2.sub.at (hat j v hj)) ?_))
   try simp(maxSteps:=999999) (disch:=omega) only[go_sem,ξ,ζ]
   refine apO (sz:=9) [0,1,2,3,4,5,6,7,8,9,10,11,12] 13 [14] rfl (by kernel_rfl) (by kernel_rfl) (by kernel_rfl) (by decide) (by kernel_rfl) (by kernel_rfl) ?_
   try simp(maxSteps:=999999) (disch:=omega) only[go_sem,ξ,ζ,appN,Nat.reduceMul]
   refine Exists.intro [_,_,_] (And.intro rfl (And.intro (fun j v hj=>by rw[add_1];exact le2.sub.at (hat' (j+1) v hj)) ?_))
   try simp(maxSteps:=999999) (disch:=omega) only[go_sem,ξ,ζ,appN,Nat.reduceMul]
   refine caN (by exact bM (hr.to (h':=h2))) ?_;rintro _ h3 _ f3;obtain⟨_,_,_,_,_,_,_,rfl,f3⟩:=f3.sa
   try simp(maxSteps:=999999) (disch:=omega) only[go_sem,ξ,ζ]
   refine caN (by exact OneSet_r f3) ?_;rintro _ h4 _ f4;obtain⟨_,_,_,_,_,_,_,_,_,_,_,_,_,_,rfl,f4⟩:=f4.sa
   try simp(maxSteps:=999999) (disch:=omega) only[go_sem,ξ,ζ]
   refine caN (by exact jp f4 (NS.le_one (by omega))) ?_;rintro u5 h5 s5 f5;obtain⟨x1,x2,x3,x4,x5,x6,x7,x8,x9,x10,x11,x12,x13,x14,x15,x16,rfl,c3⟩:=f5.sa
   try simp(maxSteps:=999999) (disch:=omega) only[go_sem,ξ,ζ,appN,Nat.reduceMul]
   intro cap' junk hc hj
   have hR:RowOf 9 (Qp h5) (row.take (i*9) ++[.string x.1,.bool x1,.slice x2 x3 x4,.slice x5 x6 x7,.bool x8,.slice x9 x10 x11,.slice x12 x13 x14,.bool x15,.bool x16] ++junk) ((zipQ b p).take (i+1)):=by
    rw[take_one hz]
    have:=(g5.mono fun cs s (q:Qp h2 cs s)=>(let ⟨ds,e1,e2,e3⟩:=q;⟨ds,e1,e2,e3.to⟩:Qp h5 cs s)).app (cs:=[.string x.1,.bool x1,.slice x2 x3 x4,.slice x5 x6 x7,.bool x8,.slice x9 x10 x11,.slice x12 x13 x14,.bool x15,.bool x16]) (s:=(x.1,qof y.2.1 y.2.2.1 y.2.2.2)) rfl ⟨_,rfl,rfl,c3⟩ junk
    rw[List.length_take,Nat.min_eq_left (by omega)] at this
    exact this
   dsimp only[lpS]
   refine⟨some (i+1,cap',row.take (i*9) ++[.string x.1,.bool x1,.slice x2 x3 x4,.slice x5 x6 x7,.bool x8,.slice x9 x10 x11,.slice x12 x13 x14,.bool x15,.bool x16] ++junk),[3],?_,⟨inferInstance,by show 1≤i+1;omega,by show i+1≤_;omega,hc,by simp;omega,hR⟩,by show b.length - (i+1) < b.length - i;omega⟩
   try simp(maxSteps:=999999) (disch:=omega) only[go_sem,ξ,ζ]
   all_goals rfl
  ·obtain rfl:i=b.length:=by omega
   rw[←hzl,List.take_length] at g5
   try simp(maxSteps:=999999) (disch:=omega) only[go_sem,ξ,ζ,hl,decide_false]
   refine rn [(7,.t (.p 0 (.s [0,1] .d)))] (by kernel_rfl) ?_
   try simp(maxSteps:=999999) (disch:=omega) only[go_sem,ξ,ζ]
   intro bb h3 st3 hb
   try simp(maxSteps:=999999) (disch:=omega) only[go_sem,ξ,ζ]
   have hb:=hb (fun e=>by rw[e] at g4;simp at g4;omega)
   have:=Pbx.of (c:=cap) hb (g5.mono fun cs s (q:Qp h2 cs s)=>(let ⟨ds,e1,e2,e3⟩:=q;⟨ds,e1,e2,e3.to⟩:Qp h3 cs s))
   rw[hzl] at this
   exact this
theorem N32.rw {h:PH} {neg:Bool} {v w:Value} {n d:Nat} (hv:N32 h v n) (hw:N32 h w d) (bn:bl n≤2^30) (bd:bl d≤2^30):Rw h (.agg #[.bool neg,v,w]) neg n d:=by
 obtain⟨a,c,xs,rfl,ha,hx,rfl⟩:=hv.out
 obtain⟨a',c',ys,rfl,ha',hy,rfl⟩:=hw.out
 have l1:=dj (val 4294967296 xs)
 have l2:=dj (val 4294967296 ys)
 rw[hx] at l1
 rw[hy] at l2
 exact⟨a,c,xs,a',c',ys,rfl,ha,ha',rfl,rfl,by omega,by omega⟩
theorem rH {h0 h:PH} [Le h0 h] {v:Value} {n:Nat} (hv:N32 h0 v n):Spec mach 145 #[v] h (fun v h'=>N32 h' v n) NP:=by
 obtain⟨a,c,xs,rfl,ha,_,rfl⟩:=hv.out
 exact Of_N ha
theorem nameX:nameB ⟨#[120]⟩=true:=by decide+kernel
theorem Kids_x {h:PH}:Spec mach 264 #[.int .i64 2] h (fun v _=>v=.tuple #[.int .i64 0,.bool true]) NP:=by
 refine Spec.go [] Tryz.func264 rfl rfl (by kernel_rfl) fun C _=>?_
 try simp(maxSteps:=999999) (disch:=omega) only[go_sem,ξ,ζ]
theorem Kids_a {h:PH}:Spec mach 264 #[.int .i64 5] h (fun v _=>v=.tuple #[.int .i64 2,.bool true]) NP:=by
 refine Spec.go [] Tryz.func264 rfl rfl (by kernel_rfl) fun C _=>?_
 try simp(maxSteps:=999999) (disch:=omega) only[go_sem,ξ,ζ]
theorem Fields_x {h:PH}:Spec mach 228 #[exXv] h (fun v _=>v=.bool true) NP:=by
 unfold exXv
 refine Spec.go [] Tryz.func228 rfl rfl (by kernel_rfl) fun C _=>?_
 try simp(maxSteps:=999999) (disch:=omega) only[go_sem,ξ,ζ]
 refine caN (by exact Kids_x) ?_;rintro v1 h1 s1 rfl
 try simp(maxSteps:=999999) (disch:=omega) only[go_sem,ξ,ζ]
 refine caN (by exact IsName_spec) ?_;rintro v2 h2 s2 rfl
 try simp(maxSteps:=999999) (disch:=omega) only[go_sem,ξ,ζ,nameX]
 refine caN (by exact rH (N32.zero h2)) ?_;rintro v3 h3 s3 q3
 try simp(maxSteps:=999999) (disch:=omega) only[go_sem,ξ,ζ]
 refine caN (by exact bU q3) ?_;rintro v4 h4 s4 rfl
 try simp(maxSteps:=999999) (disch:=omega) only[go_sem,ξ,ζ]
 all_goals rfl
theorem Fields_a {h:PH} {b:Nat}:Spec mach 228 #[exAv b] h (fun v _=>v=.bool true) NP:=by
 unfold exAv
 refine Spec.go [] Tryz.func228 rfl rfl (by kernel_rfl) fun C _=>?_
 try simp(maxSteps:=999999) (disch:=omega) only[go_sem,ξ,ζ]
 refine caN (by exact Kids_a) ?_;rintro v1 h1 s1 rfl
 try simp(maxSteps:=999999) (disch:=omega) only[go_sem,ξ,ζ,beq_self_eq_true]
 refine caN (by exact rH (N32.zero h1)) ?_;rintro v3 h3 s3 q3
 try simp(maxSteps:=999999) (disch:=omega) only[go_sem,ξ,ζ]
 refine caN (by exact bU q3) ?_;rintro v4 h4 s4 rfl
 try simp(maxSteps:=999999) (disch:=omega) only[go_sem,ξ,ζ]
 all_goals rfl
theorem Count_x {h:PH} {d n:Int} (hd:0≤d∧d≤30) (hn:0≤n∧n < 300):Spec mach 185 #[exXv,.int .i64 d,.int .i64 n] h (fun v _=>v=.int .i64 (n+1)) NP:=by
 have k:=fun {h:PH}=>Fields_x (h:=h)
 unfold exXv at k ⊢
 have e1:¬n+1 > 300:=by omega
 have e2:¬d > 30:=by omega
 refine Spec.go [] Tryz.func185 rfl rfl (by kernel_rfl) fun C _=>?_
 try simp(maxSteps:=999999) (disch:=omega) only[go_sem,ξ,ζ,e1,e2,decide_false]
 refine caN (by exact k) ?_;rintro v1 h1 s1 rfl
 try simp(maxSteps:=999999) (disch:=omega) only[go_sem,ξ,ζ]
 refine lp [] (fun _:Nat=>⟨[(2,.v (.int .i64 (n+1))),(24,.v (.int .i64 0)),(25,.v (.int .i64 0))],[]⟩) (fun _ _=>True) (fun _=>0) 0 ?_ trivial (by kernel_rfl) ?_
 ·try simp(maxSteps:=999999) (disch:=omega) only[go_sem,ξ,ζ]
  all_goals rfl
 rintro i h2 _
 try simp(maxSteps:=999999) (disch:=omega) only[go_sem,ξ,ζ]
theorem kC_at {h0:PH} {b:Nat} (hb:kC b h0):∀i,i < 2→∀(j:Nat) v,xC7[j]?=some v→h0.at ((⟨b,i*7,none⟩:Addr).add j)=some v:=fun i hi j v hv=>by
 have hj:j < 7:=(List.getElem?_eq_some_iff.1 hv).1
 unfold kC at hb
 have:(⟨b,i*7,none⟩:Addr).add j=⟨b,i*7+j,none⟩:=by
  unfold Addr.add;split
  ·rename_i e;rw[e];rfl
  ·rfl
 rw[this]
 have e:h0.at ⟨b,i*7+j,none⟩=(xC7 ++xC7)[i*7+j]?:=by simp[PH.at,hb]
 rw[e]
 rcases(show i=0∨i=1 by omega) with rfl |rfl
 ·rw[List.getElem?_append_left (by show 0*7+j < 7;omega)];simpa using hv
 ·rw[List.getElem?_append_right (by show 7≤1*7+j;omega)]
  show xC7[1*7+j - 7]?=_
  rw[show 1*7+j - 7=j by omega];exact hv
theorem Count_a {h0 h:PH} [Le h0 h] {b:Nat} (hb:kC b h0):Spec mach 185 #[exAv b,.int .i64 1,.int .i64 0] h (fun v _=>v=.int .i64 3) NP:=by
 have k:=fun {h:PH}=>Fields_a (h:=h) (b:=b)
 have hat:=kC_at hb
 unfold exAv at k ⊢
 refine Spec.go [] Tryz.func185 rfl rfl (by kernel_rfl) fun C _=>?_
 try simp(maxSteps:=999999) (disch:=omega) only[go_sem,ξ,ζ]
 refine caN (by exact k) ?_;rintro v1 h1 s1 rfl
 try simp(maxSteps:=999999) (disch:=omega) only[go_sem,ξ,ζ]
 refine lp [] (fun i:Nat=>⟨[(1,.v (.int .i64 1)),(2,.v (.int .i64 (i+1:Nat))),(23,.v (.slice (some ⟨b,0,none⟩) 2 2)),(24,.v (.int .i64 2)),(25,.v (.int .i64 i))],[]⟩) (fun i h'=>Le h0 h'∧i≤2) (fun i=>2 - i) 0 ?_ ⟨inferInstance,by decide⟩ (by kernel_rfl) ?_
 ·try simp(maxSteps:=999999) (disch:=omega) only[go_sem,ξ,ζ]
  all_goals (constructor<;>rfl)
 rintro i h2 ⟨le2,hi⟩
 by_cases hl:(i:Int) < 2
 ·have kx:=fun {h:PH}=>Count_x (h:=h) (d:=2) (n:=(i+1:Nat)) (by omega) (by omega)
  unfold exXv at kx
  have e3:¬((i+1:Nat):Int)+1 > 300:=by omega
  try simp(maxSteps:=999999) (disch:=omega) only[go_sem,ξ,ζ,hl,decide_true]
  refine Exists.intro [.int .i64 2,.int .i64 0,.bool false,.slice none 0 0,.slice none 0 0,.string ⟨#[120]⟩,.slice none 0 0] (And.intro rfl (And.intro (fun j v hj=>le2.sub.at (hat i (by omega) j v hj)) ?_))
  try simp(maxSteps:=999999) (disch:=omega) only[go_sem,ξ,ζ]
  refine caN (by exact kx) ?_;rintro v3 h3 s3 rfl
  try simp(maxSteps:=999999) (disch:=omega) only[go_sem,ξ,ζ,e3,decide_false]
  dsimp only[lpE];refine⟨i+1,?_,⟨inferInstance,by omega⟩,by omega⟩
  try simp(maxSteps:=999999) (disch:=omega) only[go_sem,ξ,ζ]
  all_goals rfl
 ·have e:i=2:=by omega
  subst e
  try simp(maxSteps:=999999) (disch:=omega) only[go_sem,ξ,ζ,hl,decide_false]
  all_goals rfl
theorem EValid_spec {h0 h:PH} [Le h0 h] {b:Nat} (hb:kC b h0):Spec mach 131 #[exAv b] h (fun v _=>v=.bool true) NP:=by
 have k:=fun {h} [Le h0 h]=>Count_a (h:=h) hb
 unfold exAv at k ⊢
 refine Spec.go [] Tryz.func131 rfl rfl (by kernel_rfl) fun C _=>?_
 try simp(maxSteps:=999999) (disch:=omega) only[go_sem,ξ,ζ]
 refine caN (by exact k) ?_;rintro v1 h1 s1 rfl
 try simp(maxSteps:=999999) (disch:=omega) only[go_sem,ξ,ζ]
namespace NS
def clo:NS→Rat
 |.e=>1
 |.i a _=>a.getD 0
def chi:NS→Rat
 |.e=>0
 |.i _ b=>b.getD 0
theorem le_c {k:Nat} {x:NS} (hk:1≤k) (h:x.le k):sz x.clo≤k∧sz x.chi≤k:=by
 have h0:sz 0≤k:=χ HY hk
 have h1:sz 1≤k:=χ (by decide) hk
 cases x with
 |e=>exact⟨h1,h0⟩
 | i a b=>
  rw[le_i] at h
  refine⟨?_,?_⟩
  ·cases a with
   |none=>exact h0
   |some a=>exact h.1 _ rfl
  ·cases b with
   |none=>exact h0
   |some b=>exact h.2 _ rfl
end NS
theorem Cv.fl {h:PH} {v:Value} {x:NS} (r:Cv h v x):∃b1 a1 m1 c1 a2 m2 c2 b2 a3 m3 c3 a4 m4 c4,v=.agg #[.bool b1,.slice a1 m1 c1,.slice a2 m2 c2,.bool b2,.slice a3 m3 c3,.slice a4 m4 c4,.bool x.loN,.bool x.hiN]∧
  Cn h (.agg #[.bool b1,.slice a1 m1 c1,.slice a2 m2 c2]) x.clo∧Cn h (.agg #[.bool b2,.slice a3 m3 c3,.slice a4 m4 c4]) x.chi:=by
 have r0:=r
 obtain⟨b1,x1,y1,b2,x2,y2,rfl,h1,h2⟩:=r
 obtain⟨_,_,_,_,_,_,_,e1,_⟩:=h1.sa
 obtain⟨_,_,_,_,_,_,_,e2,_⟩:=h2.sa
 simp only[Value.agg.injEq,Array.mk.injEq,List.cons.injEq,and_true] at e1 e2
 obtain⟨_,rfl,rfl⟩:=e1
 obtain⟨_,rfl,rfl⟩:=e2
 cases x with
 |e=>exact⟨_,_,_,_,_,_,_,_,_,_,_,_,_,_,rfl,h1,h2⟩
 |i a b=>exact⟨_,_,_,_,_,_,_,_,_,_,_,_,_,_,rfl,h1,h2⟩
def NS.ri (x:NS):RI:=⟨decide (x.clo.num < 0),x.clo.num.natAbs,if x.clo.den=1 then 0 else x.clo.den,decide (x.chi.num < 0),x.chi.num.natAbs,if x.chi.den=1 then 0 else x.chi.den,x.loN,x.hiN⟩
theorem Cv.iv {h:PH} {v:Value} {x:NS} (r:Cv h v x) (hf:x.le 2048):Iv h v x.ri:=by
 obtain⟨b1,a1,m1,c1,a2,m2,c2,b2,a3,m3,c3,a4,m4,c4,rfl,h1,h2⟩:=r.fl
 have hs:=NS.le_c (by decide) hf
 exact Iv.mk (h1.rw (χ hs.1 (by decide))) (h2.rw (χ hs.2 (by decide))) _ _
theorem NS.ri_big {x:NS} (hf:x.le 2048):x.ri.big=false:=by
 have hs:=NS.le_c (by decide) hf
 unfold RI.big NS.ri
 dsimp only
 have h1:¬lg (decide (x.clo.num < 0)) x.clo.num.natAbs (if x.clo.den=1 then 0 else x.clo.den):=by rw[lg_cn];omega
 have h2:¬lg (decide (x.chi.num < 0)) x.chi.num.natAbs (if x.chi.den=1 then 0 else x.chi.den):=by rw[lg_cn];omega
 simp only[h1,h2,decide_false,Bool.or_self]
theorem NS.ri_set {x:NS} (hx:x.ok):x.ri.set=x:=by
 unfold RI.set RI.lo RI.hi NS.ri
 dsimp only
 rw[jA,jA]
 cases x with
 |e=>simp[NS.loN,NS.hiN,NS.clo,NS.chi,NS.mk',ordO,show decide ((0:Rat) < 1)=true by decide]
 |i a b=>cases a<;>cases b<;>simp[NS.loN,NS.hiN,NS.clo,NS.chi,NS.mk']<;>simp[NS.ok] at hx<;>simp[hx]<;>rfl
theorem mI (q:Rat):cmpQ q q=0:=by unfold cmpQ;grind
theorem RefSame {h0 h:PH} [Le h0 h] {v w:Value} {x:NS} (hv:Cv h0 v x) (hw:Cv h0 w x) (hx:x.ok) (hf:x.le 2048):Spec mach 105 #[v,w] h (fun r _=>r=.bool true) NP:=by
 have hi:=hv.iv hf
 have hj:=hw.iv hf
 have hg:=NS.ri_big hf
 have hset:=NS.ri_set hx
 have hz:=(NS.le_ends (by decide)).1 hf
 obtain⟨_,_,_,_,_,_,_,_,_,_,_,_,_,_,rfl,_,_⟩:=hv.fl
 obtain⟨_,_,_,_,_,_,_,_,_,_,_,_,_,_,rfl,_,_⟩:=hw.fl
 have kA:=fun {h} [Le h0 h]=>RefOf (h:=h) hi hg
 have kB:=fun {h} [Le h0 h]=>RefOf (h:=h) hj hg
 rw[hset] at kA kB
 clear hi hj hv hw
 refine Spec.enter (args:=[_,_]) (n:=51) Tryz.func105 rfl (by kernel_rfl) rfl (by simp) [.tmp 4] rfl (fun C _=>?_)
 repeat (first |(refine rg rfl rfl (fun K hK=>?_);(repeat (first |(refine wo rfl (fun k hk=>?_);simp(disch:=omega) only[go_sem,ξ,ζ];apply hk;clear hk k) |refine wkt rfl ?_));(try refine wk0 ?_);apply hK;clear hK K;(try dsimp only[ag,qs,qb])) |((first |refine ae ?_ |refine ac ?_);simp(disch:=decide) only[qs,qb,if_true,if_false,reduceIte]) |refine ah rfl (fun K hK=>?_) |refine ct rfl ?_ |((first |refine hK _ _ ?_ |(clear hK;refine hK _ _ ?_) |(clear hK;clear hK;refine hK _ _ ?_));clear hK;(try clear K)))
 (first |refine AWP_t (.seg [.o 0,.o 2] (.alt 1 (.alt 3 (.alt 4 (.alt 5 (.alt 6 (.alt 7 .done .no) .no) .no) (.alt 5 (.alt 4 (.alt 6 (.alt 7 .done .no) .no) .no) .no)) (.alt 4 (.alt 3 (.alt 5 (.alt 6 (.alt 7 .done .no) .no) .no) (.alt 5 (.alt 3 (.alt 6 (.alt 7 .done .no) .no) .no) .no)) (.alt 5 (.alt 3 (.alt 4 (.alt 6 (.alt 7 .done .no) .no) .no) (.alt 4 (.alt 3 (.alt 6 (.alt 7 .done .no) .no) .no) .no)) .no))) (.alt 4 (.alt 1 (.alt 3 (.alt 5 (.alt 6 (.alt 7 .done .no) .no) .no) (.alt 5 (.alt 3 (.alt 6 (.alt 7 .done .no) .no) .no) .no)) (.alt 5 (.alt 1 (.alt 3 (.alt 6 (.alt 7 .done .no) .no) .no) .no) .no)) (.alt 5 (.alt 1 (.alt 3 (.alt 4 (.alt 6 (.alt 7 .done .no) .no) .no) (.alt 4 (.alt 3 (.alt 6 (.alt 7 .done .no) .no) .no) .no)) (.alt 4 (.alt 1 (.alt 3 (.alt 6 (.alt 7 .done .no) .no) .no) .no) .no)) .no)))) (by decide+kernel) rfl (fun K hK=>?_) |refine mR (.seg [.o 0,.o 2] (.alt 1 (.alt 3 (.alt 4 (.alt 5 (.alt 6 (.alt 7 .done .no) .no) .no) (.alt 5 (.alt 4 (.alt 6 (.alt 7 .done .no) .no) .no) .no)) (.alt 4 (.alt 3 (.alt 5 (.alt 6 (.alt 7 .done .no) .no) .no) (.alt 5 (.alt 3 (.alt 6 (.alt 7 .done .no) .no) .no) .no)) (.alt 5 (.alt 3 (.alt 4 (.alt 6 (.alt 7 .done .no) .no) .no) (.alt 4 (.alt 3 (.alt 6 (.alt 7 .done .no) .no) .no) .no)) .no))) (.alt 4 (.alt 1 (.alt 3 (.alt 5 (.alt 6 (.alt 7 .done .no) .no) .no) (.alt 5 (.alt 3 (.alt 6 (.alt 7 .done .no) .no) .no) .no)) (.alt 5 (.alt 1 (.alt 3 (.alt 6 (.alt 7 .done .no) .no) .no) .no) .no)) (.alt 5 (.alt 1 (.alt 3 (.alt 4 (.alt 6 (.alt 7 .done .no) .no) .no) (.alt 4 (.alt 3 (.alt 6 (.alt 7 .done .no) .no) .no) .no)) (.alt 4 (.alt 1 (.alt 3 (.alt 6 (.alt 7 .done .no) .no) .no) .no) .no)) .no)))) (by decide+kernel) rfl (fun K hK=>?_))
 have rest:∀(cs ds:List Value) (h':PH) (S:AS) (ix:List Nat),Rr h' (.agg cs.toArray) x→Rr h' (.agg ds.toArray) x→S.leS ⟨[(5,.p 0 0),(6,.p 1 0)],[cs,ds]⟩ ix→K S h':=by
  intro cs ds h' S ix r1 r2 hS
  refine hK _ _ (Gh _ _ hS ?_);clear hK K kA kB
  obtain⟨_,_,_,_,_,_,_,_,_,_,_,_,_,_,e1,p1,p2⟩:=r1.sa
  obtain⟨_,_,_,_,_,_,_,_,_,_,_,_,_,_,e2,p3,p4⟩:=r2.sa
  simp only[Value.agg.injEq,Array.mk.injEq] at e1 e2
  subst e1
  subst e2
  cases x with
  | e=>
   dsimp only[NS.loN,NS.hiN,NS.void]
   (repeat (first |(refine rg rfl rfl (fun K hK=>?_);(repeat (first |(refine wo rfl (fun k hk=>?_);simp(disch:=omega) only[go_sem,ξ,ζ];apply hk;clear hk k) |refine wkt rfl ?_));(try refine wk0 ?_);apply hK;clear hK K;(try dsimp only[ag,qs,qb])) |((first |refine ae ?_ |refine ac ?_);simp(disch:=decide) only[qs,qb,if_true,if_false,reduceIte]) |refine ah rfl (fun K hK=>?_) |refine ct rfl ?_ |((first |refine hK _ _ ?_ |(clear hK;refine hK _ _ ?_) |(clear hK;clear hK;refine hK _ _ ?_));clear hK;(try clear K))))
   refine ai ?_;simp(disch:=omega) only[go_sem,ξ,ζ]
  | i a b=>
   obtain⟨l,el⟩:∃l,(NS.i a b).loN=l:=⟨_,rfl⟩
   obtain⟨u,eu⟩:∃u,(NS.i a b).hiN=u:=⟨_,rfl⟩
   rw[el,eu]
   dsimp only[NS.void]
   have c1:=fun {h} [Le h' h]=>av (h:=h) p1 p3 (by omega) (by omega)
   have c2:=fun {h} [Le h' h]=>av (h:=h) p2 p4 (by omega) (by omega)
   rw[mI] at c1 c2
   cases l<;>cases u<;>
   ·(repeat (first |(refine rg rfl rfl (fun K hK=>?_);(repeat (first |(refine wo rfl (fun k hk=>?_);simp(disch:=omega) only[go_sem,ξ,ζ];apply hk;clear hk k) |refine wkt rfl ?_));(try refine wk0 ?_);apply hK;clear hK K;(try dsimp only[ag,qs,qb])) |((first |refine ae ?_ |refine ac ?_);simp(disch:=decide) only[qs,qb,if_true,if_false,reduceIte]) |refine ah rfl (fun K hK=>?_) |refine ct rfl ?_ |((first |refine hK _ _ ?_ |(clear hK;refine hK _ _ ?_) |(clear hK;clear hK;refine hK _ _ ?_));clear hK;(try clear K))));(refine rg rfl rfl (fun K hK=>?_);(repeat (first |(refine wo rfl (fun k hk=>?_);simp(disch:=omega) only[go_sem,ξ,ζ];apply hk;clear hk k) |refine wkt rfl ?_ |with_reducible refine wk0 ?_ |with_reducible refine ao ?_ |with_reducible refine aj ?_ wt_no |with_reducible refine ak ?_)))
    refine cN rfl rfl rfl rfl (by exact c1) ?_;rintro v1 h1 s1 rfl;(repeat (first |(refine wo rfl (fun k hk=>?_);simp(disch:=omega) only[go_sem,ξ,ζ];apply hk;clear hk k) |refine wkt rfl ?_ |with_reducible refine wk0 ?_ |with_reducible refine ao ?_ |with_reducible refine aj ?_ wt_no |with_reducible refine ak ?_))
    refine cN rfl rfl rfl rfl (by exact c2) ?_;rintro v2 h2 s2 rfl;(repeat (first |(refine wo rfl (fun k hk=>?_);simp(disch:=omega) only[go_sem,ξ,ζ];apply hk;clear hk k) |refine wkt rfl ?_ |with_reducible refine wk0 ?_ |with_reducible refine ao ?_ |with_reducible refine aj ?_ wt_no |with_reducible refine ak ?_))
    (try (simp(disch:=omega) only[go_sem,ξ,ζ]));apply hK;clear hK;(try clear K);(try dsimp only[ag,qs])
    refine ai ?_;simp(disch:=omega) only[go_sem,ξ,ζ]
 (repeat (first |(refine wo rfl (fun k hk=>?_);simp(disch:=omega) only[go_sem,ξ,ζ];apply hk;clear hk k) |refine wkt rfl ?_ |with_reducible refine wk0 ?_ |with_reducible refine ao ?_ |with_reducible refine aj ?_ wt_no |with_reducible refine ak ?_))
 refine aj ?_ (aj ?_ (aj ?_ wt_no))
 ·refine cN rfl rfl rfl rfl (by exact kA) ?_;rintro v1 h1 st_h1 f1;obtain⟨v1_0,v1_1,v1_2,v1_3,v1_4,v1_5,v1_6,v1_7,v1_8,v1_9,v1_10,v1_11,v1_12,v1_13,rfl,f1⟩:=f1.sa;(repeat (first |(refine wo rfl (fun k hk=>?_);simp(disch:=omega) only[go_sem,ξ,ζ];apply hk;clear hk k) |refine wkt rfl ?_ |with_reducible refine wk0 ?_ |with_reducible refine ao ?_ |with_reducible refine aj ?_ wt_no |with_reducible refine ak ?_))
  refine aj ?_ (aj ?_ (aj ?_ wt_no))
  ·refine cN rfl rfl rfl rfl (by exact kB) ?_;rintro v2 h2 st_h2 f2;obtain⟨v2_0,v2_1,v2_2,v2_3,v2_4,v2_5,v2_6,v2_7,v2_8,v2_9,v2_10,v2_11,v2_12,v2_13,rfl,f2⟩:=f2.sa;(repeat (first |(refine wo rfl (fun k hk=>?_);simp(disch:=omega) only[go_sem,ξ,ζ];apply hk;clear hk k) |refine wkt rfl ?_ |with_reducible refine wk0 ?_ |with_reducible refine ao ?_ |with_reducible refine aj ?_ wt_no |with_reducible refine ak ?_))
   refine aj ?_ (aj ?_ wt_no)
   ·(repeat (first |(refine wo rfl (fun k hk=>?_);simp(disch:=omega) only[go_sem,ξ,ζ];apply hk;clear hk k) |refine wkt rfl ?_ |with_reducible refine wk0 ?_ |with_reducible refine ao ?_ |with_reducible refine aj ?_ wt_no |with_reducible refine ak ?_))
    refine rest _ _ _ _ [2,3] f1.to f2.to ?_
    simp(disch:=omega) only[go_sem,ξ,ζ,aJ,true_or]
   ·(repeat (first |(refine wo rfl (fun k hk=>?_);simp(disch:=omega) only[go_sem,ξ,ζ];apply hk;clear hk k) |refine wkt rfl ?_ |with_reducible refine wk0 ?_ |with_reducible refine ao ?_ |with_reducible refine aj ?_ wt_no |with_reducible refine ak ?_))
    refine rest _ _ _ _ [3,2] f1.to f2.to ?_
    simp(disch:=omega) only[go_sem,ξ,ζ,aJ,true_or]
  ·(repeat (first |(refine wo rfl (fun k hk=>?_);simp(disch:=omega) only[go_sem,ξ,ζ];apply hk;clear hk k) |refine wkt rfl ?_ |with_reducible refine wk0 ?_ |with_reducible refine ao ?_ |with_reducible refine aj ?_ wt_no |with_reducible refine ak ?_))
   refine aj ?_ (aj ?_ wt_no)
   ·refine cN rfl rfl rfl rfl (by exact kB) ?_;rintro v2 h2 st_h2 f2;obtain⟨v2_0,v2_1,v2_2,v2_3,v2_4,v2_5,v2_6,v2_7,v2_8,v2_9,v2_10,v2_11,v2_12,v2_13,rfl,f2⟩:=f2.sa;(repeat (first |(refine wo rfl (fun k hk=>?_);simp(disch:=omega) only[go_sem,ξ,ζ];apply hk;clear hk k) |refine wkt rfl ?_ |with_reducible refine wk0 ?_ |with_reducible refine ao ?_ |with_reducible refine aj ?_ wt_no |with_reducible refine ak ?_))
    refine rest _ _ _ _ [2,3] f1.to f2.to ?_
    simp(disch:=omega) only[go_sem,ξ,ζ,aJ,true_or]
   ·(repeat (first |(refine wo rfl (fun k hk=>?_);simp(disch:=omega) only[go_sem,ξ,ζ];apply hk;clear hk k) |refine wkt rfl ?_ |with_reducible refine wk0 ?_ |with_reducible refine ao ?_ |with_reducible refine aj ?_ wt_no |with_reducible refine ak ?_))
    refine cN rfl rfl rfl rfl (by exact kB) ?_;rintro v2 h2 st_h2 f2;obtain⟨v2_0,v2_1,v2_2,v2_3,v2_4,v2_5,v2_6,v2_7,v2_8,v2_9,v2_10,v2_11,v2_12,v2_13,rfl,f2⟩:=f2.sa;(repeat (first |(refine wo rfl (fun k hk=>?_);simp(disch:=omega) only[go_sem,ξ,ζ];apply hk;clear hk k) |refine wkt rfl ?_ |with_reducible refine wk0 ?_ |with_reducible refine ao ?_ |with_reducible refine aj ?_ wt_no |with_reducible refine ak ?_))
    refine rest _ _ _ _ [2,3] f1.to f2.to ?_
    simp(disch:=omega) only[go_sem,ξ,ζ,aJ,true_or]
  ·(repeat (first |(refine wo rfl (fun k hk=>?_);simp(disch:=omega) only[go_sem,ξ,ζ];apply hk;clear hk k) |refine wkt rfl ?_ |with_reducible refine wk0 ?_ |with_reducible refine ao ?_ |with_reducible refine aj ?_ wt_no |with_reducible refine ak ?_))
   refine aj ?_ (aj ?_ wt_no)
   ·refine cN rfl rfl rfl rfl (by exact kB) ?_;rintro v2 h2 st_h2 f2;obtain⟨v2_0,v2_1,v2_2,v2_3,v2_4,v2_5,v2_6,v2_7,v2_8,v2_9,v2_10,v2_11,v2_12,v2_13,rfl,f2⟩:=f2.sa;(repeat (first |(refine wo rfl (fun k hk=>?_);simp(disch:=omega) only[go_sem,ξ,ζ];apply hk;clear hk k) |refine wkt rfl ?_ |with_reducible refine wk0 ?_ |with_reducible refine ao ?_ |with_reducible refine aj ?_ wt_no |with_reducible refine ak ?_))
    refine rest _ _ _ _ [3,2] f1.to f2.to ?_
    simp(disch:=omega) only[go_sem,ξ,ζ,aJ,true_or]
   ·(repeat (first |(refine wo rfl (fun k hk=>?_);simp(disch:=omega) only[go_sem,ξ,ζ];apply hk;clear hk k) |refine wkt rfl ?_ |with_reducible refine wk0 ?_ |with_reducible refine ao ?_ |with_reducible refine aj ?_ wt_no |with_reducible refine ak ?_))
    refine cN rfl rfl rfl rfl (by exact kB) ?_;rintro v2 h2 st_h2 f2;obtain⟨v2_0,v2_1,v2_2,v2_3,v2_4,v2_5,v2_6,v2_7,v2_8,v2_9,v2_10,v2_11,v2_12,v2_13,rfl,f2⟩:=f2.sa;(repeat (first |(refine wo rfl (fun k hk=>?_);simp(disch:=omega) only[go_sem,ξ,ζ];apply hk;clear hk k) |refine wkt rfl ?_ |with_reducible refine wk0 ?_ |with_reducible refine ao ?_ |with_reducible refine aj ?_ wt_no |with_reducible refine ak ?_))
    refine rest _ _ _ _ [3,2] f1.to f2.to ?_
    simp(disch:=omega) only[go_sem,ξ,ζ,aJ,true_or]
 ·(repeat (first |(refine wo rfl (fun k hk=>?_);simp(disch:=omega) only[go_sem,ξ,ζ];apply hk;clear hk k) |refine wkt rfl ?_ |with_reducible refine wk0 ?_ |with_reducible refine ao ?_ |with_reducible refine aj ?_ wt_no |with_reducible refine ak ?_))
  refine aj ?_ (aj ?_ wt_no)
  ·refine cN rfl rfl rfl rfl (by exact kA) ?_;rintro v1 h1 st_h1 f1;obtain⟨v1_0,v1_1,v1_2,v1_3,v1_4,v1_5,v1_6,v1_7,v1_8,v1_9,v1_10,v1_11,v1_12,v1_13,rfl,f1⟩:=f1.sa;(repeat (first |(refine wo rfl (fun k hk=>?_);simp(disch:=omega) only[go_sem,ξ,ζ];apply hk;clear hk k) |refine wkt rfl ?_ |with_reducible refine wk0 ?_ |with_reducible refine ao ?_ |with_reducible refine aj ?_ wt_no |with_reducible refine ak ?_))
   refine aj ?_ (aj ?_ wt_no)
   ·refine cN rfl rfl rfl rfl (by exact kB) ?_;rintro v2 h2 st_h2 f2;obtain⟨v2_0,v2_1,v2_2,v2_3,v2_4,v2_5,v2_6,v2_7,v2_8,v2_9,v2_10,v2_11,v2_12,v2_13,rfl,f2⟩:=f2.sa;(repeat (first |(refine wo rfl (fun k hk=>?_);simp(disch:=omega) only[go_sem,ξ,ζ];apply hk;clear hk k) |refine wkt rfl ?_ |with_reducible refine wk0 ?_ |with_reducible refine ao ?_ |with_reducible refine aj ?_ wt_no |with_reducible refine ak ?_))
    refine rest _ _ _ _ [2,3] f1.to f2.to ?_
    simp(disch:=omega) only[go_sem,ξ,ζ,aJ,true_or]
   ·(repeat (first |(refine wo rfl (fun k hk=>?_);simp(disch:=omega) only[go_sem,ξ,ζ];apply hk;clear hk k) |refine wkt rfl ?_ |with_reducible refine wk0 ?_ |with_reducible refine ao ?_ |with_reducible refine aj ?_ wt_no |with_reducible refine ak ?_))
    refine cN rfl rfl rfl rfl (by exact kB) ?_;rintro v2 h2 st_h2 f2;obtain⟨v2_0,v2_1,v2_2,v2_3,v2_4,v2_5,v2_6,v2_7,v2_8,v2_9,v2_10,v2_11,v2_12,v2_13,rfl,f2⟩:=f2.sa;(repeat (first |(refine wo rfl (fun k hk=>?_);simp(disch:=omega) only[go_sem,ξ,ζ];apply hk;clear hk k) |refine wkt rfl ?_ |with_reducible refine wk0 ?_ |with_reducible refine ao ?_ |with_reducible refine aj ?_ wt_no |with_reducible refine ak ?_))
    refine rest _ _ _ _ [2,3] f1.to f2.to ?_
    simp(disch:=omega) only[go_sem,ξ,ζ,aJ,true_or]
  ·(repeat (first |(refine wo rfl (fun k hk=>?_);simp(disch:=omega) only[go_sem,ξ,ζ];apply hk;clear hk k) |refine wkt rfl ?_ |with_reducible refine wk0 ?_ |with_reducible refine ao ?_ |with_reducible refine aj ?_ wt_no |with_reducible refine ak ?_))
   refine cN rfl rfl rfl rfl (by exact kA) ?_;rintro v1 h1 st_h1 f1;obtain⟨v1_0,v1_1,v1_2,v1_3,v1_4,v1_5,v1_6,v1_7,v1_8,v1_9,v1_10,v1_11,v1_12,v1_13,rfl,f1⟩:=f1.sa;(repeat (first |(refine wo rfl (fun k hk=>?_);simp(disch:=omega) only[go_sem,ξ,ζ];apply hk;clear hk k) |refine wkt rfl ?_ |with_reducible refine wk0 ?_ |with_reducible refine ao ?_ |with_reducible refine aj ?_ wt_no |with_reducible refine ak ?_))
   refine cN rfl rfl rfl rfl (by exact kB) ?_;rintro v2 h2 st_h2 f2;obtain⟨v2_0,v2_1,v2_2,v2_3,v2_4,v2_5,v2_6,v2_7,v2_8,v2_9,v2_10,v2_11,v2_12,v2_13,rfl,f2⟩:=f2.sa;(repeat (first |(refine wo rfl (fun k hk=>?_);simp(disch:=omega) only[go_sem,ξ,ζ];apply hk;clear hk k) |refine wkt rfl ?_ |with_reducible refine wk0 ?_ |with_reducible refine ao ?_ |with_reducible refine aj ?_ wt_no |with_reducible refine ak ?_))
   refine rest _ _ _ _ [2,3] f1.to f2.to ?_
   simp(disch:=omega) only[go_sem,ξ,ζ,aJ,true_or]
 ·(repeat (first |(refine wo rfl (fun k hk=>?_);simp(disch:=omega) only[go_sem,ξ,ζ];apply hk;clear hk k) |refine wkt rfl ?_ |with_reducible refine wk0 ?_ |with_reducible refine ao ?_ |with_reducible refine aj ?_ wt_no |with_reducible refine ak ?_))
  refine aj ?_ (aj ?_ wt_no)
  ·refine cN rfl rfl rfl rfl (by exact kA) ?_;rintro v1 h1 st_h1 f1;obtain⟨v1_0,v1_1,v1_2,v1_3,v1_4,v1_5,v1_6,v1_7,v1_8,v1_9,v1_10,v1_11,v1_12,v1_13,rfl,f1⟩:=f1.sa;(repeat (first |(refine wo rfl (fun k hk=>?_);simp(disch:=omega) only[go_sem,ξ,ζ];apply hk;clear hk k) |refine wkt rfl ?_ |with_reducible refine wk0 ?_ |with_reducible refine ao ?_ |with_reducible refine aj ?_ wt_no |with_reducible refine ak ?_))
   refine aj ?_ (aj ?_ wt_no)
   ·refine cN rfl rfl rfl rfl (by exact kB) ?_;rintro v2 h2 st_h2 f2;obtain⟨v2_0,v2_1,v2_2,v2_3,v2_4,v2_5,v2_6,v2_7,v2_8,v2_9,v2_10,v2_11,v2_12,v2_13,rfl,f2⟩:=f2.sa;(repeat (first |(refine wo rfl (fun k hk=>?_);simp(disch:=omega) only[go_sem,ξ,ζ];apply hk;clear hk k) |refine wkt rfl ?_ |with_reducible refine wk0 ?_ |with_reducible refine ao ?_ |with_reducible refine aj ?_ wt_no |with_reducible refine ak ?_))
    refine rest _ _ _ _ [3,2] f1.to f2.to ?_
    simp(disch:=omega) only[go_sem,ξ,ζ,aJ,true_or]
   ·(repeat (first |(refine wo rfl (fun k hk=>?_);simp(disch:=omega) only[go_sem,ξ,ζ];apply hk;clear hk k) |refine wkt rfl ?_ |with_reducible refine wk0 ?_ |with_reducible refine ao ?_ |with_reducible refine aj ?_ wt_no |with_reducible refine ak ?_))
    refine cN rfl rfl rfl rfl (by exact kB) ?_;rintro v2 h2 st_h2 f2;obtain⟨v2_0,v2_1,v2_2,v2_3,v2_4,v2_5,v2_6,v2_7,v2_8,v2_9,v2_10,v2_11,v2_12,v2_13,rfl,f2⟩:=f2.sa;(repeat (first |(refine wo rfl (fun k hk=>?_);simp(disch:=omega) only[go_sem,ξ,ζ];apply hk;clear hk k) |refine wkt rfl ?_ |with_reducible refine wk0 ?_ |with_reducible refine ao ?_ |with_reducible refine aj ?_ wt_no |with_reducible refine ak ?_))
    refine rest _ _ _ _ [3,2] f1.to f2.to ?_
    simp(disch:=omega) only[go_sem,ξ,ζ,aJ,true_or]
  ·(repeat (first |(refine wo rfl (fun k hk=>?_);simp(disch:=omega) only[go_sem,ξ,ζ];apply hk;clear hk k) |refine wkt rfl ?_ |with_reducible refine wk0 ?_ |with_reducible refine ao ?_ |with_reducible refine aj ?_ wt_no |with_reducible refine ak ?_))
   refine cN rfl rfl rfl rfl (by exact kA) ?_;rintro v1 h1 st_h1 f1;obtain⟨v1_0,v1_1,v1_2,v1_3,v1_4,v1_5,v1_6,v1_7,v1_8,v1_9,v1_10,v1_11,v1_12,v1_13,rfl,f1⟩:=f1.sa;(repeat (first |(refine wo rfl (fun k hk=>?_);simp(disch:=omega) only[go_sem,ξ,ζ];apply hk;clear hk k) |refine wkt rfl ?_ |with_reducible refine wk0 ?_ |with_reducible refine ao ?_ |with_reducible refine aj ?_ wt_no |with_reducible refine ak ?_))
   refine cN rfl rfl rfl rfl (by exact kB) ?_;rintro v2 h2 st_h2 f2;obtain⟨v2_0,v2_1,v2_2,v2_3,v2_4,v2_5,v2_6,v2_7,v2_8,v2_9,v2_10,v2_11,v2_12,v2_13,rfl,f2⟩:=f2.sa;(repeat (first |(refine wo rfl (fun k hk=>?_);simp(disch:=omega) only[go_sem,ξ,ζ];apply hk;clear hk k) |refine wkt rfl ?_ |with_reducible refine wk0 ?_ |with_reducible refine ao ?_ |with_reducible refine aj ?_ wt_no |with_reducible refine ak ?_))
   refine rest _ _ _ _ [3,2] f1.to f2.to ?_
   simp(disch:=omega) only[go_sem,ξ,ζ,aJ,true_or]
theorem zC {h:PH} {a:Option Addr} {m c n:Nat} (r:N32 h (.slice a m c) n) (h0:n≠0) (h1:n < 4294967296):m=1∧∃ad,a=some ad∧h.at ad=some (.int .u32 n):=by
 have hW:W 4294967296 n=[n]:=by
  rw[W_pos (by decide) h0,qBi h1,Nat.div_eq_of_lt h1,ff]
 obtain⟨a',c',e,A⟩:=r
 rw[hW] at e A
 simp only[Value.slice.injEq,List.length_cons,List.length_nil] at e
 obtain⟨rfl,rfl,rfl⟩:=e
 obtain⟨ad,e1,e2⟩:=A.at_ 0 n rfl
 refine⟨rfl,ad,e1,?_⟩
 simpa[Addr.add] using e2
theorem E4 {h:PH} {a:Option Addr} {m c:Nat} (r:N32 h (.slice a m c) 0):m=0:=by
 obtain⟨a',c',e,A⟩:=r
 rw[ff] at e
 simp only[Value.slice.injEq,List.length_nil] at e
 exact e.2.1
end Go.Q
namespace Go.Q
open Go.Proofs Go.RowKit
set_option maxRecDepth 100000
set_option maxHeartbeats 8000000
theorem Vars_spec {h0 h:PH} [l0:Le h0 h] {b:Nat} (hb:kC b h0):Spec mach 132 #[exAv b] h (fun r h'=>∃ad c,r=.tuple #[.slice (some ad) 1 c,.int .i64 0]∧h'.at ad=some (.string ⟨#[120]⟩)) NP:=by
 refine⟨by kernel_rfl,fun w hw hg=>?_⟩
 have hb1:h b=some (xC7 ++xC7).toArray:=l0.sub _ _ hb
 obtain⟨T,f,hk⟩:=hw _ _ hb1
 have kV:∀m W,Below w.heap.size w W→CallsIn Fence.wide m Tryz.prog 131 #[exAv b] W fun e W'=>e=.returned (.bool true)∧Below W.heap.size W W':=fun m W hB=>by
  refine callsIn_wide.2 (((EValid_spec (h:=h) hb).run W (hw.below hB) hg).mono fun e W' hp=>?_)
  cases e with
  |returned v=>obtain⟨h',p1,_,_,_,rfl⟩:=hp;exact⟨rfl,p1⟩
  |panicked ch=>obtain⟨_,_,_,_,_,hp⟩:=hp;exact(hp:False).elim
  |outgrown=>exact(hp:False).elim
 refine(callsIn_wide.1 (vars_in ⟨(Array.getElem?_eq_some_iff.1 hk).1,T,f,hk⟩ kV)).mono fun e w' hp=>?_
 obtain⟨v,rfl,hr,hB⟩:=hp
 rcases hr.2 with⟨_,h1⟩ |⟨g,cap,cur,rfl,hge,hh,hn,_,hs,ht⟩
 ·cases h1
 ·have hgn:h g=none:=by
   cases e:h g with
   |none=>rfl
   |some cs=>have:=hw.lt e;omega
  refine⟨fun k=>if k=g then some cur else h k,hB,fun k cs hx=>?_,fun k cs hx=>?_,fun k hx=>?_,⟨g,0,none⟩,cap,rfl,?_⟩
  ·have hx:(if k=g then some cur else h k)=some cs:=hx
   by_cases e:k=g
   ·rw[if_pos e] at hx;cases hx;exact⟨_,_,e▸hh⟩
   ·rw[if_neg e] at hx;exact(hw.below hB) _ _ hx
  ·show(if k=g then some cur else h k)=some cs
   rw[if_neg (fun e=>by rw[e,hgn] at hx;cases hx)];exact hx
  ·have hx:(if k=g then some cur else h k)≠none:=hx
   by_cases e:k=g
   ·exact .inr (e▸hge)
   ·rw[if_neg e] at hx;exact .inl hx
  ·have e0:cur[0]?=some (.string ⟨#[120]⟩):=by
    have:=congrArg (·[0]?) ht
    simpa using this
   unfold PH.at
   simp[e0]
def x01:RI:=⟨false,0,0,false,1,0,false,false⟩
def l01:List Sd1:=[(⟨#[120]⟩,x01)]
theorem l01_ok:okB l01=true:=by decide+kernel
theorem l01_fnd:fnd l01 ⟨#[120]⟩=some 0:=by decide+kernel
theorem Ready_spec {h0 h:PH} [Le h0 h] {v:Value} {b:Nat} (hb:kC b h0) (hv:Boxv h0 v l01):Spec mach 86 #[exAv b,v,.int .i64 2] h (fun r _=>r=.int .i64 0) NP:=by
 have kE:=fun {h} [Le h0 h]=>EValid_spec (h:=h) hb
 have kB:=fun {h} [Le h0 h]=>BValid_spec (h:=h) hv
 have kN:=fun {h} [Le h0 h]=>Vars_spec (h:=h) hb
 have kI:=fun {h} [Le h0 h]=>Index_spec (h:=h) (s:=⟨#[120]⟩) hv
 rw[l01_ok] at kB
 rw[l01_fnd] at kI
 obtain⟨va,vm,vc,rfl⟩:=hv.sa
 unfold exAv at kE kN ⊢
 refine Spec.go [] Tryz.func86 rfl rfl (by kernel_rfl) fun C _=>?_
 try simp(maxSteps:=999999) (disch:=omega) only[go_sem,ξ,ζ]
 refine caN (by exact kE) ?_;rintro v1 h1 s1 rfl
 try simp(maxSteps:=999999) (disch:=omega) only[go_sem,ξ,ζ]
 refine caN (by exact kB) ?_;rintro v2 h2 s2 rfl
 try simp(maxSteps:=999999) (disch:=omega) only[go_sem,ξ,ζ]
 refine caN (by exact kN) ?_;rintro v3 h3 s3 ⟨ad,c,rfl,hat⟩
 try simp(maxSteps:=999999) (disch:=omega) only[go_sem,ξ,ζ]
 refine lp [] (fun i:Nat=>⟨[(1,.v (.slice va vm vc)),(31,.v (.slice (some ad) 1 c)),(32,.v (.int .i64 1)),(33,.v (.int .i64 i))],[]⟩) (fun i h'=>Le h0 h'∧h'.at ad=some (.string ⟨#[120]⟩)∧i≤1) (fun i=>1 - i) 0 ?_ ⟨inferInstance,hat,by decide⟩ (by kernel_rfl) ?_
 ·try simp(maxSteps:=999999) (disch:=omega) only[go_sem,ξ,ζ]
  all_goals rfl
 rintro i h4 ⟨le4,hat4,hi⟩
 by_cases hl:(i:Int) < 1
 ·obtain rfl:i=0:=by omega
  try simp(maxSteps:=999999) (disch:=omega) only[go_sem,ξ,ζ]
  refine aE hat4 ?_
  try simp(maxSteps:=999999) (disch:=omega) only[go_sem,ξ,ζ]
  refine caN (by exact kI) ?_;rintro v5 h5 s5 rfl
  try simp(maxSteps:=999999) (disch:=omega) only[go_sem,ξ,ζ]
  dsimp only[lpE];refine⟨1,?_,⟨inferInstance,s5.sub.at hat4,by omega⟩,by omega⟩
  ·try simp(maxSteps:=999999) (disch:=omega) only[go_sem,ξ,ζ]
   all_goals rfl
 ·try simp(maxSteps:=999999) (disch:=omega) only[go_sem,ξ,ζ,hl,decide_false]
end Go.Q
namespace Go.Q
open Go.Proofs Go.RowKit
set_option maxRecDepth 100000
set_option maxHeartbeats 8000000
theorem out01:x01.fin (Out.prec 2 (.ok (x01.set.hull (2:Int).toNat)))=.ok (.i (some 0) (some 1)):=by
 have e:x01.set=.i (some 0) (some 1):=by kernel_rfl
 have b:x01.big=false:=by decide+kernel
 have e1:gdown 0 2=0:=by decide+kernel
 have e2:gup 1 2=1:=by decide+kernel
 have e3:decide (NS.le 2048 (NS.i (some 0) (some 1)))=true:=by decide
 unfold RI.fin Out.prec
 rw[b,e]
 simp[NS.hull,bad,Out.fin,e1,e2,e3]
theorem out02:RI.fin2 (NS.i (some 0) (some 1)).ri (NS.i (some 0) (some 1)).ri (rnd 2 (NS.i (some 0) (some 1)).ri.set (NS.i (some 0) (some 1)).ri.set (.ok ((NS.i (some 0) (some 1)).ri.set.sum (NS.i (some 0) (some 1)).ri.set)))=.ok (.i (some 0) (some 2)):=by
 have l1:(NS.i (some 0) (some 1)).le 2048:=by decide
 have o1:(NS.i (some 0) (some 1)).ok:=by unfold NS.ok ordO;decide
 rw[NS.ri_set o1]
 unfold RI.fin2 rnd Out.prec
 rw[NS.ri_big l1]
 have e1:gdown (0+0) 2=0:=by decide+kernel
 have e2:gup (1+1) 2=2:=by decide+kernel
 have e3:decide (NS.le 2048 (NS.i (some 0) (some 2)))=true:=by decide
 simp[NS.sum,oadd,NS.void,bad,NS.hull,Out.fin,e1,e2,e3]
theorem Leaf_x {h0 h:PH} [Le h0 h] {v:Value} (hv:Boxv h0 v l01):Spec mach 133 #[exXv,v,.int .i64 2] h (fun r h'=>Ir h' r (.ok (.i (some 0) (some 1)))) NP:=by
 have kF:=fun {h} [Le h0 h]=>BFind_spec (h:=h) (s:=⟨#[120]⟩) hv
 unfold Fnd at kF
 rw[l01_fnd] at kF
 obtain⟨_,_,_,rfl⟩:=hv.sa
 unfold exXv
 refine Spec.go [] Tryz.func133 rfl rfl (by kernel_rfl) fun C _=>?_
 try simp(maxSteps:=999999) (disch:=omega) only[go_sem,ξ,ζ]
 refine caN (by exact kF) ?_;rintro v1 h1 s1 ⟨v2,x2,e2,rfl,q2⟩;obtain rfl:x2=(⟨#[120]⟩,x01):=(by cases e2;rfl);obtain⟨_,_,_,_,_,_,_,_,_,_,_,_,rfl,_,_⟩:=q2.sa
 try simp(maxSteps:=999999) (disch:=omega) only[go_sem,ξ,ζ]
 have kR:=fun {h} [Le h1 h]=>du (h:=h) (p:=2) q2
 rw[out01] at kR
 refine caN (by exact kR) ?_;rintro r h2 s2 r2;obtain⟨u,rfl,c2⟩:=r2;obtain⟨_,_,_,_,_,_,_,_,_,_,_,_,_,_,_,_,rfl,c3⟩:=c2.sa
 try simp(maxSteps:=999999) (disch:=omega) only[go_sem,ξ,ζ]
 exact⟨_,rfl,c3⟩
theorem Eval_x {h0 h:PH} [Le h0 h] {v:Value} (hv:Boxv h0 v l01):Spec mach 87 #[exXv,v,.int .i64 2] h (fun r h'=>Ir h' r (.ok (.i (some 0) (some 1)))) NP:=by
 have kL:=fun {h} [Le h0 h]=>Leaf_x (h:=h) hv
 obtain⟨_,_,_,rfl⟩:=hv.sa
 unfold exXv at kL ⊢
 refine Spec.go [] Tryz.func87 rfl rfl (by kernel_rfl) fun C _=>?_
 try simp(maxSteps:=999999) (disch:=omega) only[go_sem,ξ,ζ]
 refine caN (by exact kL) ?_;rintro r h2 s2 r2;obtain⟨u,rfl,c2⟩:=r2;obtain⟨_,_,_,_,_,_,_,_,_,_,_,_,_,_,_,_,rfl,c3⟩:=c2.sa
 try simp(maxSteps:=999999) (disch:=omega) only[go_sem,ξ,ζ]
 exact⟨_,rfl,c3⟩
theorem Kid_x {h0 h:PH} [Le h0 h] {v:Value} {b1 b2:Nat} (hv:Boxv h0 v l01) (hb1:h0 b1=some #[v]) (hb2:h0 b2=some #[.int .i64 2]):Spec mach 135 #[exXv,.pointer (some ⟨b1,0,none⟩),.pointer (some ⟨b2,0,none⟩)] h (fun r h'=>Ir h' r (.ok (.i (some 0) (some 1)))) NP:=by
 have kL:=fun {h} [Le h0 h]=>Eval_x (h:=h) hv
 have hb1:=(inferInstance:Le h0 h).sub _ _ hb1
 have hb2:=(inferInstance:Le h0 h).sub _ _ hb2
 obtain⟨_,_,_,rfl⟩:=hv.sa
 unfold exXv at kL ⊢
 refine Spec.go [] Tryz.func135 rfl rfl (by kernel_rfl) fun C _=>?_
 try simp(maxSteps:=999999) (disch:=omega) only[go_sem,ξ,ζ]
 refine aE (aK hb1) ?_
 try simp(maxSteps:=999999) (disch:=omega) only[go_sem,ξ,ζ]
 refine aE (aK hb2) ?_
 try simp(maxSteps:=999999) (disch:=omega) only[go_sem,ξ,ζ]
 refine caN (by exact kL) ?_;rintro r h2 s2 r2;obtain⟨u,rfl,c2⟩:=r2;obtain⟨_,_,_,_,_,_,_,_,_,_,_,_,_,_,_,_,rfl,c3⟩:=c2.sa
 try simp(maxSteps:=999999) (disch:=omega) only[go_sem,ξ,ζ]
 exact⟨_,rfl,c3⟩
def q01 (h:PH) (cs:List Value) (_:Unit):Prop:=Cv h (.agg cs.toArray) (.i (some 0) (some 1))
theorem Comb_a {h0 h:PH} [Le h0 h] {v:Value} {b b1 b2:Nat} (hb:kC b h0) (hv:Boxv h0 v l01) (hb1:h0 b1=some #[v]) (hb2:h0 b2=some #[.int .i64 2]):Spec mach 134 #[exAv b,.int .i64 2,.func (.func 135) #[] #[.pointer (some ⟨b1,0,none⟩),.pointer (some ⟨b2,0,none⟩)]] h (fun r h'=>Ir h' r (.ok (.i (some 0) (some 2)))) NP:=by
 have kK:=fun {h} [Le h0 h]=>Kid_x (h:=h) hv hb1 hb2
 unfold exAv exXv at*
 refine Spec.go [(10,.x),(22,.o [0,1,2,3,4,5,6,7,8,9,10,11])] Tryz.func134 rfl rfl (by kernel_rfl) fun C _=>?_
 try simp(maxSteps:=999999) (disch:=omega) only[go_sem,ξ,ζ]
 refine lpSl [(10,.x),(22,.o [0,1,2,3,4,5,6,7,8,9,10,11])] (fun x:Option (Nat×Nat×List Value)=>match x with |none=>⟨[(1,.v (.int .i64 2)),(2,.v (.func (.func 135) #[] #[.pointer (some ⟨b1,0,none⟩),.pointer (some ⟨b2,0,none⟩)])),(3,.p 0 0),(6,.p 1 0),(7,.v (.int .i64 0)),(22,.v (.slice (some ⟨b,0,none⟩) 2 2)),(23,.v (.int .i64 (2:Nat))),(8,.v (.slice none 0 0)),(24,.v (.int .i64 0))],[[.int .i64 5,.int .i64 0,.bool false,.slice none 0 0,.slice none 0 0,.string ⟨#[]⟩,.slice (some ⟨b,0,none⟩) 2 2],[.bool false,.slice none 0 0,.slice none 0 0,.bool false,.slice none 0 0,.slice none 0 0,.bool false,.bool false]]⟩ |some x=>⟨[(1,.v (.int .i64 2)),(2,.v (.func (.func 135) #[] #[.pointer (some ⟨b1,0,none⟩),.pointer (some ⟨b2,0,none⟩)])),(3,.p 0 0),(6,.p 1 0),(7,.v (.int .i64 0)),(22,.v (.slice (some ⟨b,0,none⟩) 2 2)),(23,.v (.int .i64 (2:Nat))),(8,.s 2 0 x.1 x.2.1),(24,.v (.int .i64 x.1))],[[.int .i64 5,.int .i64 0,.bool false,.slice none 0 0,.slice none 0 0,.string ⟨#[]⟩,.slice (some ⟨b,0,none⟩) 2 2],[.bool false,.slice none 0 0,.slice none 0 0,.bool false,.slice none 0 0,.slice none 0 0,.bool false,.bool false],x.2.2]⟩) (fun x h'=>Le h0 h'∧match x with |none=>True |some x=>1≤x.1∧x.1≤2∧x.1≤x.2.1∧x.2.1*8=x.2.2.length∧RowOf 8 (q01 h') x.2.2 (List.replicate x.1 ())) (fun x=>match x with |none=>2 |some x=>2 - x.1) none [0,1] ?_ ⟨inferInstance,trivial⟩ (by kernel_rfl) ?_
 ·try simp(maxSteps:=999999) (disch:=omega) only[go_sem,ξ,ζ]
  all_goals rfl
 rintro(_ |⟨i,cap,row⟩) h2 ⟨le2,hr⟩
 ·have hl:(0:Int) < ((2:Nat):Int):=by decide
  dsimp only
  try simp(maxSteps:=999999) (disch:=omega) only[go_sem,ξ,ζ,hl,decide_true]
  refine Exists.intro [_,_,_,_,_,_,_] (And.intro rfl (And.intro (fun j v hj=>le2.sub.at (kC_at hb 0 (by decide) j v hj)) ?_))
  try simp(maxSteps:=999999) (disch:=omega) only[go_sem,ξ,ζ]
  refine caN (by exact kK) ?_;rintro r h3 s3 r3;obtain⟨u,rfl,c3⟩:=r3;obtain⟨x1,x2,x3,x4,x5,x6,x7,x8,x9,x10,x11,x12,x13,x14,x15,x16,rfl,c3⟩:=c3.sa
  try simp(maxSteps:=999999) (disch:=omega) only[go_sem,ξ,ζ]
  refine AWP_app (sz:=8) [.o 0,.o 1,.o 2] 3 [.o 4] rfl (by kernel_rfl) (by kernel_rfl) (by rfl) (by decide) rfl rfl ?_
  try simp(maxSteps:=999999) (disch:=omega) only[go_sem,ξ,ζ,walk,appN,Nat.reduceMul]
  intro cap junk hc hj
  have hR:RowOf 8 (q01 h3) ([.bool x1,.slice x2 x3 x4,.slice x5 x6 x7,.bool x8,.slice x9 x10 x11,.slice x12 x13 x14,.bool x15,.bool x16] ++junk) (List.replicate 1 ()):=(RowOf.nil (sz:=8) (Q:=q01 h3) (row:=[])).app (cs:=[.bool x1,.slice x2 x3 x4,.slice x5 x6 x7,.bool x8,.slice x9 x10 x11,.slice x12 x13 x14,.bool x15,.bool x16]) (s:=()) rfl c3 junk
  dsimp only[lpS]
  refine⟨some (1,cap,[.bool x1,.slice x2 x3 x4,.slice x5 x6 x7,.bool x8,.slice x9 x10 x11,.slice x12 x13 x14,.bool x15,.bool x16] ++junk),[0,1,5],?_,⟨inferInstance,η 1,Nat.le_succ 1,hc,by simp;omega,hR⟩,η 2⟩
  try simp(maxSteps:=999999) (disch:=omega) only[go_sem,ξ,ζ]
  all_goals rfl
 ·obtain⟨g1,g2,g3,g4,g5⟩:=hr
  dsimp only at g1 g2 g3 g4 g5 ⊢
  by_cases hl:(i:Int) < ((2:Nat):Int)
  ·obtain rfl:i=1:=by omega
   try simp(maxSteps:=999999) (disch:=omega) only[go_sem,ξ,ζ,hl,decide_true]
   refine Exists.intro [_,_,_,_,_,_,_] (And.intro rfl (And.intro (fun j v hj=>le2.sub.at (kC_at hb 1 (by decide) j v hj)) ?_))
   try simp(maxSteps:=999999) (disch:=omega) only[go_sem,ξ,ζ]
   refine caN (by exact kK) ?_;rintro r h3 s3 r3;obtain⟨u,rfl,c3⟩:=r3;obtain⟨x1,x2,x3,x4,x5,x6,x7,x8,x9,x10,x11,x12,x13,x14,x15,x16,rfl,c3⟩:=c3.sa
   try simp(maxSteps:=999999) (disch:=omega) only[go_sem,ξ,ζ]
   refine AWP_app (sz:=8) [.o 0,.o 1,.o 2] 3 [.o 4] rfl (by kernel_rfl) (by kernel_rfl) (by rfl) (by decide) rfl rfl ?_
   try simp(maxSteps:=999999) (disch:=omega) only[go_sem,ξ,ζ,walk,appN,Nat.reduceMul]
   intro cap' junk hc hj
   have hR:RowOf 8 (q01 h3) (row.take 8 ++[.bool x1,.slice x2 x3 x4,.slice x5 x6 x7,.bool x8,.slice x9 x10 x11,.slice x12 x13 x14,.bool x15,.bool x16] ++junk) (List.replicate 2 ()):=(g5.mono fun cs s (k:Cv h2 _ _)=>(k.to:Cv h3 _ _)).app (cs:=[.bool x1,.slice x2 x3 x4,.slice x5 x6 x7,.bool x8,.slice x9 x10 x11,.slice x12 x13 x14,.bool x15,.bool x16]) (s:=()) rfl c3 junk
   dsimp only[lpS]
   refine⟨some (2,cap',row.take 8 ++[.bool x1,.slice x2 x3 x4,.slice x5 x6 x7,.bool x8,.slice x9 x10 x11,.slice x12 x13 x14,.bool x15,.bool x16] ++junk),[0,1,6],?_,⟨inferInstance,Nat.le_succ 1,η 2,hc,by simp;omega,hR⟩,η 1⟩
   try simp(maxSteps:=999999) (disch:=omega) only[go_sem,ξ,ζ]
   all_goals rfl
  ·obtain rfl:i=2:=by omega
   try simp(maxSteps:=999999) (disch:=omega) only[go_sem,ξ,ζ,hl,decide_false]
   have c1:Cv h2 (.agg (List.take 8 (List.drop (0*8) row)).toArray) (.i (some 0) (some 1)):=g5.2 0 () rfl
   have c2:Cv h2 (.agg (List.take 8 (List.drop (Int.toNat 1*8) row)).toArray) (.i (some 0) (some 1)):=g5.2 1 () rfl
   have kA:=fun {h} [Le h2 h]=>jf (h:=h) (p:=2) (c1.iv (by decide)) (c2.iv (by decide))
   rw[out02] at kA
   refine caN (by exact kA) ?_;rintro r h3 s3 r3;obtain⟨u,rfl,c3⟩:=r3;obtain⟨_,_,_,_,_,_,_,_,_,_,_,_,_,_,_,_,rfl,c3⟩:=c3.sa
   try simp(maxSteps:=999999) (disch:=omega) only[go_sem,ξ,ζ]
   exact⟨_,rfl,c3⟩
theorem Eval_a {h0 h:PH} [Le h0 h] {v:Value} {b:Nat} (hb:kC b h0) (hv:Boxv h0 v l01):Spec mach 87 #[exAv b,v,.int .i64 2] h (fun r h'=>Ir h' r (.ok (.i (some 0) (some 2)))) NP:=by
 have hv0:=hv
 obtain⟨_,_,_,rfl⟩:=hv.sa
 have hb0:=hb
 unfold exAv
 refine Spec.go [(3,.t (.s [0,1] (.p 1 (.p 2 (.s [2,3,4,5,6,7] .d)))))] Tryz.func87 rfl rfl (by kernel_rfl) fun C _=>?_
 try simp(maxSteps:=999999) (disch:=omega) only[go_sem,ξ,ζ]
 intro b1 h1 st1 hb1
 try simp(maxSteps:=999999) (disch:=omega) only[go_sem,ξ,ζ]
 intro b2 h2 st2 hb2
 try simp(maxSteps:=999999) (disch:=omega) only[go_sem,ξ,ζ]
 have hb1:=st2.sub _ _ (hb1 (by simp))
 have hb2:=hb2 (by simp)
 have kC2:=fun {h} [Le h2 h]=>Comb_a (h:=h) ((inferInstance:Le h0 h2).sub _ _ hb0) (hv0.to (h':=h2)) hb1 hb2
 unfold exAv at kC2
 refine caN (by exact kC2) ?_;rintro r h3 s3 r3;obtain⟨u,rfl,c3⟩:=r3;obtain⟨_,_,_,_,_,_,_,_,_,_,_,_,_,_,_,_,rfl,c3⟩:=c3.sa
 try simp(maxSteps:=999999) (disch:=omega) only[go_sem,ξ,ζ]
 exact⟨_,rfl,c3⟩
theorem Range_a {h0 h:PH} [Le h0 h] {v:Value} {b:Nat} (hb:kC b h0) (hv:Boxv h0 v l01):Spec mach 46 #[exAv b,v,.int .i64 2] h (fun r h'=>Ir h' r (.ok (.i (some 0) (some 2)))) NP:=by
 have kR:=fun {h} [Le h0 h]=>Ready_spec (h:=h) hb hv
 have kE:=fun {h} [Le h0 h]=>Eval_a (h:=h) hb hv
 obtain⟨_,_,_,rfl⟩:=hv.sa
 unfold exAv at*
 refine Spec.go [] Tryz.func46 rfl rfl (by kernel_rfl) fun C _=>?_
 try simp(maxSteps:=999999) (disch:=omega) only[go_sem,ξ,ζ]
 refine caN (by exact kR) ?_;rintro v1 h1 s1 rfl
 try simp(maxSteps:=999999) (disch:=omega) only[go_sem,ξ,ζ]
 refine caN (by exact kE) ?_;rintro r h3 s3 r3;obtain⟨u,rfl,c3⟩:=r3;obtain⟨_,_,_,_,_,_,_,_,_,_,_,_,_,_,_,_,rfl,c3⟩:=c3.sa
 try simp(maxSteps:=999999) (disch:=omega) only[go_sem,ξ,ζ]
 exact⟨_,rfl,c3⟩
theorem awake05_spec {h:PH}:Spec mach 15 #[] h (fun r _=>r=.bool true) NP:=by
 refine Spec.go [(3,.t (.p 1 (.s [0,1,2] (.p 2 (.s [3,4,5,6,7,8,9,10,11] .d)))))] Tryz.func15 rfl rfl (by kernel_rfl) fun C _=>?_
 try simp(maxSteps:=999999) (disch:=omega) only[go_sem,ξ,ζ]
 refine caN (by exact aF (n:=1) (by decide) (by decide)) ?_;rintro _ h1 _ f1;obtain⟨_,_,_,_,_,_,_,rfl,f1⟩:=f1.sa
 try simp(maxSteps:=999999) (disch:=omega) only[go_sem,ξ,ζ]
 refine caN (by exact cA f1 (by decide)) ?_;rintro _ h2 _ f2;obtain⟨v2_0,v2_1,v2_2,v2_3,v2_4,v2_5,v2_6,rfl,f2⟩:=f2.sa
 try simp(maxSteps:=999999) (disch:=omega) only[go_sem,ξ,ζ,Nat.reduceMul]
 intro bs h3 st3 hbs
 try simp(maxSteps:=999999) (disch:=omega) only[go_sem,ξ,ζ]
 have hbs:=hbs (by simp)
 intro bk h4 st4 hbk
 try simp(maxSteps:=999999) (disch:=omega) only[go_sem,ξ,ζ]
 have hbk:kC bk h4:=hbk (by simp)
 have hat:∀j v,([.string ⟨#[120]⟩,.bool false,.slice none 0 0,.slice none 0 0,.bool v2_0,.slice v2_1 v2_2 v2_3,.slice v2_4 v2_5 v2_6,.bool false,.bool false]:List Value)[j]?=some v→h4.at (((⟨bs,0,none⟩:Addr).add 0).add j)=some v:=fun j v hj=>by
  refine st4.sub.at ?_
  rw[at_off hbs,Nat.zero_add]
  simpa using hj
 have hv:Boxv h4 (.slice (some ⟨bs,0,none⟩) 1 1) l01:=⟨_,_,rfl,by decide,fun i s hi=>by
  have hi1:i < 1:=(List.getElem?_eq_some_iff.1 hi).1
  obtain rfl:i=0:=by omega
  cases hi
  refine⟨_,_,_,_,_,_,_,_,_,_,_,_,_,_,_,_,_,rfl,hat,?_⟩
  have c1:Cv h4 (.agg #[.bool false,.slice none 0 0,.slice none 0 0,.bool v2_0,.slice v2_1 v2_2 v2_3,.slice v2_4 v2_5 v2_6,.bool false,.bool false]) (.i (some 0) (some 1)):=⟨_,_,_,_,_,_,rfl,Cn.zero h4,by simpa using f2.to (h':=h4)⟩
  exact c1.iv (by decide)⟩
 have kR:=fun {h} [Le h4 h]=>Range_a (h:=h) hbk hv
 have kV:=fun {h} [Le h4 h]=>BValid_spec (h:=h) hv
 rw[l01_ok] at kV
 unfold exAv at kR
 refine caN (by exact kR) ?_;rintro r h5 s5 r5;obtain⟨u,rfl,c5⟩:=r5;obtain⟨d1,w1,w2,w3,w4,w5,w6,d2,w7,w8,w9,w10,w11,w12,rfl,p1,p2⟩:=c5.fl
 try simp(maxSteps:=999999) (disch:=omega) only[go_sem,ξ,ζ]
 have p1:Cn h5 _ 0:=p1
 have p2:Cn h5 _ 2:=p2
 obtain⟨sn,sd,e1,n1,n2⟩:=p1
 obtain⟨sn',sd',e2,n3,n4⟩:=p2
 simp only[Value.agg.injEq,Array.mk.injEq,List.cons.injEq,and_true] at e1 e2
 obtain⟨_,rfl,rfl⟩:=e1
 obtain⟨_,rfl,rfl⟩:=e2
 have:=E4 (by simpa using n1)
 subst this
 obtain⟨rfl,ad',rfl,t2⟩:=zC (n:=2) n3 (by decide) (by decide)
 have:=E4 (by simpa using n4)
 subst this
 try simp(maxSteps:=999999) (disch:=omega) only[go_sem,ξ,ζ]
 refine aE t2 ?_
 try simp(maxSteps:=999999) (disch:=omega) only[go_sem,ξ,ζ]
 refine caN (by exact kV) ?_;rintro v6 h6 s6 rfl
 try simp(maxSteps:=999999) (disch:=omega) only[go_sem,ξ,ζ]
 all_goals rfl
end Go.Q
