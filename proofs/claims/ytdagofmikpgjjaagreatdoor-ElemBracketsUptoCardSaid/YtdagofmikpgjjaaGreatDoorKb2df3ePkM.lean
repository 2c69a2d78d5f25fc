/-
  Numbers as they come in (Rv) and as an operation of package number returns them (Nq), and what stands on it. Conditions: each theorem's own.
-/
import Derived.Test.YtdagofmikpgjjaaGreatDoorK78b478PkI
import Derived.Test.YtdagofmikpgjjaaGreatDoorK98c21dPkF
import Derived.Test.YtdagofmikpgjjaaGreatDoorK56fa9ePkH
import Derived.Test.YtdagofmikpgjjaaGreatDoorK0534f2PkL
set_option linter.unusedVariables false
set_option linter.unusedSimpArgs false
open Nat (reduceAdd)
namespace Go.Q
open Go.Proofs
set_option maxRecDepth 100000
set_option maxHeartbeats 8000000
def Rv (h:PH) (v:Value) (q:Rat):Prop:=∃neg n d,Rw h v neg n d∧¬lg neg n d∧qof neg n d=q
theorem Rv.to {h h':PH} {v:Value} {q:Rat} (r:Rv h v q) [Le h h']:Rv h' v q:=let ⟨a,b,c,h1,h2⟩:=r;⟨a,b,c,h1.to,h2⟩
theorem Rv.of {h:PH} {v:Value} {q:Rat} (c:Cn h v q) (hs:sz q≤2048):Rv h v q:=⟨_,_,_,c.rw (Nat.le_trans hs (by decide)),by rw[lg_cn];omega,jA q⟩
theorem Rv.sz {h:PH} {v:Value} {q:Rat} (r:Rv h v q):sz q≤2048:=by
  obtain⟨_,_,_,_,h2,rfl⟩:=r
  unfold lg at h2
  omega
theorem Rv.up {h:PH} {v:Value} {q:Rat} (r:Rv h v q):Go.Q.sz q≤2^36:=Nat.le_trans r.sz (by decide)
theorem Rv.sa {h:PH} {v:Value} {q:Rat} (r:Rv h v q):∃b na nl nc da dl dc,v=.agg #[.bool b,.slice na nl nc,.slice da dl dc]∧Rv h (.agg #[.bool b,.slice na nl nc,.slice da dl dc]) q:=by
  have r0:=r
  obtain⟨_,_,_,h1,_,_⟩:=r
  obtain⟨_,_,_,_,_,_,_,rfl,_⟩:=h1.sa
  exact⟨_,_,_,_,_,_,_,rfl,r0⟩
theorem kg {h0 h:PH} [Le h0 h] {v:Value} {q:Rat} (hv:Rv h0 v q):Spec mach 176 #[v] h (fun r h'=>∃f,r=.tuple #[f,.bool true]∧Fr h' f q) NP:=by
  obtain⟨_,_,_,h1,h2,rfl⟩:=hv
  exact sN h1 h2
def Nc (h:PH) (r:Value) (q:Rat):Prop:=∃b na nl nc da dl dc e,r=.tuple #[.agg #[.bool b,.slice na nl nc,.slice da dl dc],.int .i64 e]∧(e=1∧2048 < sz q∨e=0∧sz q≤2048∧Cn h (.agg #[.bool b,.slice na nl nc,.slice da dl dc]) q)
theorem Nc.mk {h:PH} {b:Bool} {na da:Option Addr} {nl nc dl dc:Nat} {e:Int} {q:Rat} (k:e=1∧2048 < sz q∨e=0∧sz q≤2048∧Cn h (.agg #[.bool b,.slice na nl nc,.slice da dl dc]) q):Nc h (.tuple #[.agg #[.bool b,.slice na nl nc,.slice da dl dc],.int .i64 e]) q:=⟨_,_,_,_,_,_,_,_,rfl,k⟩
theorem Nc.ok {h:PH} {r:Value} {q:Rat} (k:Nc h r q) (hs:sz q≤2048):∃b na nl nc da dl dc,r=.tuple #[.agg #[.bool b,.slice na nl nc,.slice da dl dc],.int .i64 0]∧Cn h (.agg #[.bool b,.slice na nl nc,.slice da dl dc]) q:=by
  obtain⟨_,_,_,_,_,_,_,_,rfl,⟨_,k⟩ |⟨rfl,_,k⟩⟩:=k
  · omega
  · exact⟨_,_,_,_,_,_,_,rfl,k⟩
theorem qy {h0 h:PH} [Le h0 h] {v:Value} {x:Rat} (hx:Fr h0 v x):Spec mach 179 #[v] h (fun r h'=>Nc h' r x) NP:=by
  by_cases hs:sz x≤2048
  · refine(cO hx hs).mono (fun r h' _ k=>?_) (fun _ _ _ k=>k)
    obtain⟨u,rfl,c⟩:=k
    obtain⟨_,_,_,_,_,_,_,rfl,c⟩:=c.sa
    exact Nc.mk (.inr ⟨rfl,hs,c⟩)
  · exact(ms hx hs).mono (fun r h' _ k=>by subst k;exact Nc.mk (.inl ⟨rfl,by omega⟩)) (fun _ _ _ k=>k)
theorem Cn.nul (h:PH):Cn h (.agg #[.bool false,.slice none 0 0,.slice none 0 0]) 0:=⟨.slice none 0 0,.slice none 0 0,by simp,by simpa using N32.zero h,by simpa using N32.zero h⟩
theorem pL {h0 h:PH} [Le h0 h] {v:Value} {x z:Rat} {g:FuncId} (hx:Rv h0 v x) (hg:∀{h0 h:PH} {a:Value} [Le h0 h],Fr h0 a x→Spec mach g #[a] h (fun v h'=>Fr h' v z) NP):Spec mach 188 #[v,.func (.func g) #[] #[]] h (fun r h'=>Nc h' r z) NP:=by
  have kX:=fun {h} [Le h0 h]=>kg (h:=h) hx
  obtain⟨_,_,_,_,_,_,_,rfl,_⟩:=hx.sa
  refine Spec.go [] Tryz.func188 rfl rfl (by kernel_rfl) fun C _=>?_
  simp(disch:=omega) only[go_sem,Nat.reduceBEq,reduceAdd]
  refine caN (by exact kX) ?_;rintro v1 h1 s1 ⟨f,rfl,hf⟩;obtain⟨_,_,_,_,_,_,_,rfl,hf⟩:=hf.sa
  simp(disch:=omega) only[go_sem,Nat.reduceBEq,reduceAdd]
  refine caN (by exact hg hf) ?_;rintro v3 h3 s3 hz;obtain⟨_,_,_,_,_,_,_,rfl,hz⟩:=hz.sa
  simp(disch:=omega) only[go_sem,Nat.reduceBEq,reduceAdd]
  refine caN (by exact qy hz) ?_;rintro v4 h4 s4 q4;obtain⟨_,_,_,_,_,_,_,_,rfl,w4⟩:=q4
  simp(disch:=omega) only[go_sem,Nat.reduceBEq,reduceAdd]
  exact Nc.mk w4
theorem IG {h0 h:PH} [Le h0 h] {v:Value} {neg:Bool} {n d:Nat} {g:FuncId} (hv:Rw h0 v neg n d) (hl:lg neg n d):Spec mach 188 #[v,.func (.func g) #[] #[]] h (fun r _=>r=.tuple #[.agg #[.bool false,.slice none 0 0,.slice none 0 0],.int .i64 1]) NP:=by
  have kX:=fun {h} [Le h0 h]=>Gm (h:=h) hv hl
  obtain⟨_,_,_,_,_,_,_,rfl,_⟩:=hv.sa
  refine Spec.go [] Tryz.func188 rfl rfl (by kernel_rfl) fun C _=>?_
  simp(disch:=omega) only[go_sem,Nat.reduceBEq,reduceAdd]
  refine caN (by exact kX) ?_;rintro v1 h1 s1 ⟨_,_,_,_,_,_,_,rfl⟩
  simp(disch:=omega) only[go_sem,Nat.reduceBEq,reduceAdd]
  all_goals omega
theorem Cd {h0 h:PH} [Le h0 h] {v:Value} {x:Rat} (hx:Fr h0 v x):Spec mach 189 #[v] h (fun v h'=>Fr h' v x) NP:=by
  have hx0:=hx
  obtain⟨_,_,_,_,_,_,_,rfl,hx1⟩:=hx.sa
  refine Spec.go [] Tryz.func189 rfl rfl (by kernel_rfl) fun C _=>?_
  simp(disch:=omega) only[go_sem,Nat.reduceBEq,reduceAdd]
  exact hx1.to
theorem iW {h0 h:PH} [Le h0 h] {v:Value} {q:Rat} (hx:Rv h0 v q):Spec mach 104 #[v] h (fun r h'=>∃b na nl nc da dl dc,r=.tuple #[.agg #[.bool b,.slice na nl nc,.slice da dl dc],.int .i64 0]∧Cn h' (.agg #[.bool b,.slice na nl nc,.slice da dl dc]) q) NP:=by
  have kX:=fun {h} [Le h0 h]=>kg (h:=h) hx
  have hs:=hx.sz
  have kO:∀{h:PH} [Le h0 h],Spec mach 188 #[v,.func (.func 189) #[] #[]] h (fun r h'=>∃b na nl nc da dl dc,r=.tuple #[.agg #[.bool b,.slice na nl nc,.slice da dl dc],.int .i64 0]∧Cn h' (.agg #[.bool b,.slice na nl nc,.slice da dl dc]) q) NP:=by
    intro h _
    obtain⟨_,_,_,_,_,_,_,rfl,_⟩:=hx.sa
    refine Spec.go [] Tryz.func188 rfl rfl (by kernel_rfl) fun C _=>?_
    simp(disch:=omega) only[go_sem,Nat.reduceBEq,reduceAdd]
    refine caN (by exact kX) ?_;rintro v1 h1 s1 ⟨f,rfl,hf⟩;obtain⟨_,_,_,_,_,_,_,rfl,hf⟩:=hf.sa
    simp(disch:=omega) only[go_sem,Nat.reduceBEq,reduceAdd]
    refine caN (by exact Cd hf) ?_;rintro v3 h3 s3 hz;obtain⟨_,_,_,_,_,_,_,rfl,hz⟩:=hz.sa
    simp(disch:=omega) only[go_sem,Nat.reduceBEq,reduceAdd]
    refine caN (by exact cO hz hs) ?_;rintro v4 h4 s4 ⟨u,rfl,c⟩;obtain⟨_,_,_,_,_,_,_,rfl,c⟩:=c.sa
    simp(disch:=omega) only[go_sem,Nat.reduceBEq,reduceAdd]
    exact⟨_,_,_,_,_,_,_,rfl,c⟩
  obtain⟨_,_,_,_,_,_,_,rfl,_⟩:=hx.sa
  refine Spec.go [] Tryz.func104 rfl rfl (by kernel_rfl) fun C _=>?_
  simp(disch:=omega) only[go_sem,Nat.reduceBEq,reduceAdd]
  refine caN (by exact kO) ?_;rintro v1 h1 s1 ⟨_,_,_,_,_,_,_,rfl,c⟩
  simp(disch:=omega) only[go_sem,Nat.reduceBEq,reduceAdd]
  exact⟨_,_,_,_,_,_,_,rfl,c⟩
theorem gX {h0 h:PH} [Le h0 h] {v:Value} {neg:Bool} {n d:Nat} (hv:Rw h0 v neg n d) (hl:lg neg n d):Spec mach 104 #[v] h (fun r _=>r=.tuple #[.agg #[.bool false,.slice none 0 0,.slice none 0 0],.int .i64 1]) NP:=by
  have kX:=fun {h} [Le h0 h]=>IG (h:=h) (g:=189) hv hl
  obtain⟨_,_,_,_,_,_,_,rfl,_⟩:=hv.sa
  refine Spec.go [] Tryz.func104 rfl rfl (by kernel_rfl) fun C _=>?_
  simp(disch:=omega) only[go_sem,Nat.reduceBEq,reduceAdd]
  refine caN (by exact kX) ?_;rintro v1 h1 s1 rfl
  simp(disch:=omega) only[go_sem,Nat.reduceBEq,reduceAdd]
theorem oQ {h:PH} {n:Int} (h1: -4611686018427387904≤n) (h2:n≤4611686018427387904):Spec mach 115 #[.int .i64 n] h (fun v h'=>Cn h' v (n:Rat)) NP:=by
  have hs:sz (n:Rat)≤2048:=by
    unfold sz
    have e1:bl ((n:Rat).num.natAbs)≤64:=bl_le.2 (by simp;omega)
    have e2:bl ((n:Rat).den)≤64:=bl_le.2 (by simp)
    omega
  refine Spec.go [] Tryz.func115 rfl rfl (by kernel_rfl) fun C _=>?_
  simp(disch:=omega) only[go_sem,Nat.reduceBEq,reduceAdd]
  refine caN (by exact cB (by omega) (by omega)) ?_;rintro v1 h1 s1 q1;obtain⟨_,_,_,_,_,_,_,rfl,q1⟩:=q1.sa
  simp(disch:=omega) only[go_sem,Nat.reduceBEq,reduceAdd]
  refine caN (by exact cO q1 hs) ?_;rintro v4 h4 s4 ⟨u,rfl,c⟩;obtain⟨_,_,_,_,_,_,_,rfl,c⟩:=c.sa
  simp(disch:=omega) only[go_sem,Nat.reduceBEq,reduceAdd]
  exact c
theorem Low_spec {h0 h:PH} [Le h0 h] {v:Value} {m n:Nat} (hv:N32 h0 v m) (hn:n≤2^40):Spec mach 166 #[v,.int .i64 n] h (fun r _=>r=.bool (decide (m % 2^n≠0))) NP:=by
  have kT:=fun {h} [Le h0 h]=>qC (h:=h) hv
  have e1 :decide (m % 2^n≠0)=(decide (m≠0) && decide (tw m < n)):=by
    by_cases hm:m=0
    · subst hm;simp
    · obtain⟨t,ht⟩:=pz m hm
      by_cases hl:tw m < n
      · have:m % 2^n≠0:=by
          intro e
          have hd:=Nat.dvd_of_mod_eq_zero e
          have h2:2^(tw m+1)∣m:=Nat.dvd_trans (Nat.pow_dvd_pow 2 hl) hd
          have h3:=F8 hm rfl
          obtain⟨c,hc⟩:=h2
          have e2:m / 2^tw m=2*c:=Nat.div_eq_of_eq_mul_right (Nat.pow_pos (by decide)) (by rw[←Nat.mul_assoc,←Nat.pow_succ];exact hc)
          rw[e2] at h3
          omega
        simp[this,hm,hl]
      · have:m % 2^n=0:=Nat.mod_eq_zero_of_dvd (Nat.dvd_trans (Nat.pow_dvd_pow 2 (by omega)) (BZ m))
        simp[this,hl]
  rw[e1]
  obtain⟨a,c,xs,rfl,ha,hx,rfl⟩:=hv.out
  have hl0:=nP (B:=4294967296) (by decide) (n:=val 4294967296 xs)
  rw[hx] at hl0
  by_cases hm:val 4294967296 xs=0
  · have e2:decide ((xs.length:Int) > 0)=false:=decide_eq_false (by omega)
    rw[show(decide (val 4294967296 xs≠0) && decide (tw (val 4294967296 xs) < n))=false by simp[hm]]
    refine Spec.go [] Tryz.func166 rfl rfl (by kernel_rfl) fun C _=>?_
    simp(disch:=omega) only[go_sem,Nat.reduceBEq,reduceAdd,e2]
  · have e2:decide ((xs.length:Int) > 0)=true:=decide_eq_true (by omega)
    rw[show(decide (val 4294967296 xs≠0) && decide (tw (val 4294967296 xs) < n))=decide ((tw (val 4294967296 xs):Int) < (n:Int)) by simp[hm]]
    refine Spec.go [] Tryz.func166 rfl rfl (by kernel_rfl) fun C _=>?_
    simp(disch:=omega) only[go_sem,Nat.reduceBEq,reduceAdd,e2]
    refine caN (by exact kT) ?_;rintro v1 h1 s1 rfl
    simp(disch:=omega) only[go_sem,Nat.reduceBEq,reduceAdd]
def cdiv (a d:Nat):Nat:=(a+(d - 1)) / d
theorem pT {a d:Nat} (hd:d≠0) (h:a % d=0):cdiv a d=a / d:=by
  obtain⟨q,rfl⟩:=Nat.dvd_of_mod_eq_zero h
  unfold cdiv
  rw[Nat.mul_div_cancel_left _ (Nat.pos_of_ne_zero hd),Nat.mul_add_div (Nat.pos_of_ne_zero hd),Nat.div_eq_of_lt (by omega),Nat.add_zero]
theorem uA {a d:Nat} (hd:d≠0) (h:a % d≠0):cdiv a d=a / d+1:=by
  have e:=Nat.div_add_mod a d
  have l:=Nat.mod_lt a (Nat.pos_of_ne_zero hd)
  unfold cdiv
  generalize a / d=q at*
  generalize a % d=r at*
  subst e
  rw[Nat.add_assoc,Nat.mul_add_div (Nat.pos_of_ne_zero hd),show r+(d - 1)=d+(r - 1) by omega,Nat.add_div_left _ (Nat.pos_of_ne_zero hd),Nat.div_eq_of_lt (by omega)]
theorem am (n:Nat):2^n≠0:=Nat.ne_of_gt (Nat.pow_pos (by decide))
theorem AG {a d:Nat} (hd:d≠0):cdiv a d≤a / d+1:=by
  by_cases h:a % d=0
  · rw[pT hd h];omega
  · rw[uA hd h];omega
theorem fy (a:Nat) {d:Nat} (hd:d≠0):bl (cdiv a d)≤bl a+1:=by
  have h1:=cY (a / d) 1
  have h2:=aZ a d
  have h3:=aR (AG (a:=a) hd)
  by_cases h0:a=0
  · subst h0
    rw[pT hd (Nat.zero_mod d)]
    omega
  have h4:=(xG h0).1
  have:=fI
  omega
theorem bu {h:PH} {w:Nat} (hw:w≤2^30):Spec mach 77 #[.int .i64 w] h (fun v h'=>N32 h' v (2^w)) NP:=by
  have e:=Nat.one_mul (2^w)
  refine Spec.go [] Tryz.func77 rfl rfl (by kernel_rfl) fun C _=>?_
  try simp(disch:=omega) only[go_sem,Nat.reduceBEq,reduceAdd]
  refine caN (by exact aw (n:=1) (by decide)) ?_;rintro _ h1 _ q1;obtain⟨v1,_,_,rfl,q1⟩:=q1.sl
  try simp(disch:=omega) only[go_sem,Nat.reduceBEq,reduceAdd]
  refine caN (by exact aL (n:=w) q1 (by have:=fI;omega)) ?_;rintro _ h2 _ q2;obtain⟨v2,_,_,rfl,q2⟩:=q2.sl
  try simp(disch:=omega) only[go_sem,Nat.reduceBEq,reduceAdd]
  rw[e] at q2
  exact q2
theorem kJ {h0 h:PH} [Le h0 h] {v:Value} {a n:Nat} (hv:N32 h0 v a) (ba:bl a≤2^39) (hn:n≤2^39):Spec mach 84 #[v,.int .i64 n] h (fun v h'=>N32 h' v (cdiv a (2^n))) NP:=by
  have b1:=aZ a (2^n)
  have kS:=fun {h} [Le h0 h]=>gD (h:=h) (n:=n) hv (by omega) (by omega)
  have kL:=fun {h} [Le h0 h]=>Low_spec (h:=h) (n:=n) hv (by omega)
  obtain⟨_,_,_,rfl,_⟩:=hv.sl
  by_cases he:a % 2^n=0
  · rw[pT (am n) he]
    rw[decide_eq_false (fun k=>k he)] at kL
    refine Spec.go [] Tryz.func84 rfl rfl (by kernel_rfl) fun C _=>?_
    try simp(disch:=omega) only[go_sem,Nat.reduceBEq,reduceAdd]
    refine caN (by exact kS) ?_;rintro _ h1 _ q1;obtain⟨v1,_,_,rfl,q1⟩:=q1.sl
    try simp(disch:=omega) only[go_sem,Nat.reduceBEq,reduceAdd]
    refine caN (by exact kL) ?_;rintro v2 h2 s2 rfl
    try simp(disch:=omega) only[go_sem,Nat.reduceBEq,reduceAdd]
    exact q1.to
  · rw[uA (am n) he]
    rw[decide_eq_true he] at kL
    refine Spec.go [] Tryz.func84 rfl rfl (by kernel_rfl) fun C _=>?_
    try simp(disch:=omega) only[go_sem,Nat.reduceBEq,reduceAdd]
    refine caN (by exact kS) ?_;rintro _ h1 _ q1;obtain⟨v1,_,_,rfl,q1⟩:=q1.sl
    try simp(disch:=omega) only[go_sem,Nat.reduceBEq,reduceAdd]
    refine caN (by exact kL) ?_;rintro v2 h2 s2 rfl
    try simp(disch:=omega) only[go_sem,Nat.reduceBEq,reduceAdd]
    refine caN (by exact aw (n:=1) (by decide)) ?_;rintro _ h3 _ q3;obtain⟨v3,_,_,rfl,q3⟩:=q3.sl
    try simp(disch:=omega) only[go_sem,Nat.reduceBEq,reduceAdd]
    refine caN (by exact bR (q1.to (h':=h3)) q3 (by omega) (by have:=fI;omega)) ?_;rintro _ h4 _ q4;obtain⟨v4,_,_,rfl,q4⟩:=q4.sl
    try simp(disch:=omega) only[go_sem,Nat.reduceBEq,reduceAdd]
    exact q4
def odiv (a d:Nat) (c:Bool):Nat:=if c then cdiv a d else a / d
theorem bD {h0 h:PH} [Le h0 h] {v w:Value} {a d:Nat} {c:Bool} (hv:N32 h0 v a) (hw:N32 h0 w d) (hd:d≠0) (ba:bl a≤2^36) (bd:bl d≤2^36):Spec mach 83 #[v,w,.bool c] h (fun v h'=>N32 h' v (odiv a d c)) NP:=by
  have b1:=aZ a d
  have kD:=fun {h} [Le h0 h]=>gU (h:=h) hv hw hd (by omega) (by omega)
  obtain⟨_,_,_,rfl,_⟩:=hv.sl
  obtain⟨_,_,_,rfl,_⟩:=hw.sl
  cases c with
  | false=>
    refine Spec.go [] Tryz.func83 rfl rfl (by kernel_rfl) fun C _=>?_
    try simp(disch:=omega) only[go_sem,Nat.reduceBEq,reduceAdd]
    refine caN (by exact kD) ?_;rintro v1 h1 s1 ⟨q,r,rfl,hq,hr⟩;obtain⟨_,_,_,rfl,hq⟩:=hq.sl;obtain⟨_,_,_,rfl,hr⟩:=hr.sl
    try simp(disch:=omega) only[go_sem,Nat.reduceBEq,reduceAdd]
    exact hq
  | true=>
    by_cases he:a % d=0
    · rw[show odiv a d true=a / d from pT hd he]
      refine Spec.go [] Tryz.func83 rfl rfl (by kernel_rfl) fun C _=>?_
      try simp(disch:=omega) only[go_sem,Nat.reduceBEq,reduceAdd]
      refine caN (by exact kD) ?_;rintro v1 h1 s1 ⟨q,r,rfl,hq,hr⟩;obtain⟨_,_,_,rfl,hq⟩:=hq.sl;obtain⟨_,_,_,rfl,hr⟩:=hr.sl
      try simp(disch:=omega) only[go_sem,Nat.reduceBEq,reduceAdd]
      refine caN (by exact bU hr) ?_;rintro v2 h2 s2 rfl
      try simp(disch:=omega) only[go_sem,Nat.reduceBEq,reduceAdd]
      try rw[decide_eq_true he]
      try simp(disch:=omega) only[go_sem,Nat.reduceBEq,reduceAdd]
      exact hq.to
    · rw[show odiv a d true=a / d+1 from uA hd he]
      refine Spec.go [] Tryz.func83 rfl rfl (by kernel_rfl) fun C _=>?_
      try simp(disch:=omega) only[go_sem,Nat.reduceBEq,reduceAdd]
      refine caN (by exact kD) ?_;rintro v1 h1 s1 ⟨q,r,rfl,hq,hr⟩;obtain⟨_,_,_,rfl,hq⟩:=hq.sl;obtain⟨_,_,_,rfl,hr⟩:=hr.sl
      try simp(disch:=omega) only[go_sem,Nat.reduceBEq,reduceAdd]
      refine caN (by exact bU hr) ?_;rintro v2 h2 s2 rfl
      try simp(disch:=omega) only[go_sem,Nat.reduceBEq,reduceAdd]
      try rw[decide_eq_false he]
      try simp(disch:=omega) only[go_sem,Nat.reduceBEq,reduceAdd]
      refine caN (by exact aw (n:=1) (by decide)) ?_;rintro _ h3 _ q3;obtain⟨v3,_,_,rfl,q3⟩:=q3.sl
      try simp(disch:=omega) only[go_sem,Nat.reduceBEq,reduceAdd]
      refine caN (by exact bR (hq.to (h':=h3)) q3 (by omega) (by have:=fI;omega)) ?_;rintro _ h4 _ q4;obtain⟨v4,_,_,rfl,q4⟩:=q4.sl
      try simp(disch:=omega) only[go_sem,Nat.reduceBEq,reduceAdd]
      exact q4
theorem N32.rw {h:PH} {neg:Bool} {v w:Value} {n d:Nat} (hv:N32 h v n) (hw:N32 h w d) (bn:bl n≤2^30) (bd:bl d≤2^30):Rw h (.agg #[.bool neg,v,w]) neg n d:=by
  obtain⟨a,c,xs,rfl,ha,hx,rfl⟩:=hv.out
  obtain⟨a',c',ys,rfl,ha',hy,rfl⟩:=hw.out
  have l1:=dj (val 4294967296 xs)
  have l2:=dj (val 4294967296 ys)
  rw[hx] at l1
  rw[hy] at l2
  exact⟨a,c,xs,a',c',ys,rfl,ha,ha',rfl,rfl,by omega,by omega⟩
theorem rH {h0 h:PH} [Le h0 h] {v:Value} {n:Nat} (hv:N32 h0 v n):Spec mach 88 #[v] h (fun v h'=>N32 h' v n) NP:=by
  obtain⟨a,c,xs,rfl,ha,_,rfl⟩:=hv.out
  exact Of_N ha
theorem grid_rv {h:PH} {neg:Bool} {v w:Value} {a n:Nat} (hv:N32 h v a) (hw:N32 h w (2^n)) (ba:bl a≤2048) (hn:n < 2048):Rv h (.agg #[.bool neg,v,w]) (sgn neg a (2^n)):=by
  have b2:bl (2^n)≤2048:=Nat.le_trans (bC n) hn
  have hp:2^n≠0:=Nat.ne_of_gt (Nat.pow_pos (by decide))
  have e:qof neg a (2^n)=sgn neg a (2^n):=by unfold qof dz;rw[if_neg hp]
  refine⟨neg,a,2^n,hv.rw hw (by omega) (by omega),?_,e⟩
  have:=dg neg a hp
  unfold lg
  rw[e]
  omega
theorem aO {h0 h:PH} [Le h0 h] {v:Value} {a n:Nat} {neg:Bool} (hv:N32 h0 v a) (ba:bl a≤2048) (hn:n < 2048):Spec mach 87 #[v,.int .i64 n,.bool neg] h (fun v h'=>Cn h' v (sgn neg a (2^n))) NP:=by
  have hv0:=hv
  obtain⟨_,_,_,rfl,_⟩:=hv.sl
  refine Spec.go [] Tryz.func87 rfl rfl (by kernel_rfl) fun C _=>?_
  try simp(disch:=omega) only[go_sem,Nat.reduceBEq,reduceAdd]
  refine caN (by exact bu (w:=n) (by omega)) ?_;rintro _ h1 _ q1;obtain⟨v1,_,_,rfl,q1⟩:=q1.sl
  try simp(disch:=omega) only[go_sem,Nat.reduceBEq,reduceAdd]
  refine caN (by exact iW (grid_rv (neg:=neg) (hv0.to (h':=h1)) q1 ba hn)) ?_;rintro v2 h2 s2 ⟨_,_,_,_,_,_,_,rfl,c⟩
  try simp(disch:=omega) only[go_sem,Nat.reduceBEq,reduceAdd]
  exact c
def Pr (h:PH) (v:Value) (a b:Nat):Prop:=∃x m c y n d,v=.agg #[.slice x m c,.slice y n d]∧N32 h (.slice x m c) a∧N32 h (.slice y n d) b
theorem Pr.to {h h':PH} {v:Value} {a b:Nat} (r:Pr h v a b) [Le h h']:Pr h' v a b:=let ⟨x,m,c,y,n,d,e,h1,h2⟩:=r;⟨x,m,c,y,n,d,e,h1.to,h2.to⟩
def glo (x:Rat) (w:Nat):Nat:=x.num.natAbs*2^w / x.den
def ghi (x:Rat) (w:Nat):Nat:=cdiv (x.num.natAbs*2^w) x.den
theorem iH {h0 h:PH} [Le h0 h] {v:Value} {x:Rat} {w:Nat} (hx:Cn h0 v x) (bx:sz x≤2^20) (hw:w≤2^20):Spec mach 76 #[v,.int .i64 w] h (fun v h'=>Pr h' v (glo x w) (ghi x w)) NP:=by
  have b1:=bG x
  have b2:=bB x
  have b3:=cu x.num.natAbs w
  have b4:=aZ (x.num.natAbs*2^w) x.den
  have hd0:x.den≠0:=x.den_nz
  obtain⟨sn,sd,rfl,hn,hd⟩:=hx
  have kO:=fun {h} [Le h0 h]=>rH (h:=h) hn
  have kD:=fun {h} [Le h0 h]=>rH (h:=h) hd
  obtain⟨_,_,_,rfl,_⟩:=hn.sl
  obtain⟨_,_,_,rfl,_⟩:=hd.sl
  by_cases h1:x.den=1
  · rw[if_pos h1] at kD
    unfold glo ghi
    rw[h1]
    rw[h1] at b4 hd0
    have e1:x.num.natAbs*2^w % 1=0:=Nat.mod_one _
    rw[pT (by decide) e1]
    refine Spec.go [] Tryz.func76 rfl rfl (by kernel_rfl) fun C _=>?_
    try simp(disch:=omega) only[go_sem,Nat.reduceBEq,reduceAdd]
    refine caN (by exact kD) ?_;rintro _ g1 _ q1;obtain⟨v1,_,_,rfl,q1⟩:=q1.sl
    try simp(disch:=omega) only[go_sem,Nat.reduceBEq,reduceAdd]
    refine caN (by exact bU q1) ?_;rintro v2 h2 s2 hz;obtain rfl:v2=.bool true:=hz
    try simp(disch:=omega) only[go_sem,Nat.reduceBEq,reduceAdd]
    refine caN (by exact aw (n:=1) (by decide)) ?_;rintro _ g3 _ q3;obtain⟨v3,_,_,rfl,q3⟩:=q3.sl
    try simp(disch:=omega) only[go_sem,Nat.reduceBEq,reduceAdd]
    refine caN (by exact kO) ?_;rintro _ g4 _ q4;obtain⟨v4,_,_,rfl,q4⟩:=q4.sl
    try simp(disch:=omega) only[go_sem,Nat.reduceBEq,reduceAdd]
    refine caN (by exact aL (n:=w) q4 (by omega)) ?_;rintro _ g5 _ q5;obtain⟨_,_,_,rfl,q5⟩:=q5.sl
    try simp(disch:=omega) only[go_sem,Nat.reduceBEq,reduceAdd]
    refine caN (by exact gU q5 (q3.to (h':=g5)) (by decide) (by omega) (by decide)) ?_;rintro v6 g6 s6 ⟨q,r,rfl,hq,hr⟩;obtain⟨_,_,_,rfl,hq⟩:=hq.sl;obtain⟨_,_,_,rfl,hr⟩:=hr.sl
    try simp(disch:=omega) only[go_sem,Nat.reduceBEq,reduceAdd]
    refine caN (by exact bU hr) ?_;rintro v7 g7 s7 rfl
    try simp(disch:=omega) only[go_sem,Nat.reduceBEq,reduceAdd]
    try rw[decide_eq_true e1]
    try simp(disch:=omega) only[go_sem,Nat.reduceBEq,reduceAdd]
    exact⟨_,_,_,_,_,_,rfl,hq.to,hq.to⟩
  · rw[if_neg h1] at kD
    have e0:decide (x.den=0)=false:=decide_eq_false hd0
    by_cases he:x.num.natAbs*2^w % x.den=0
    · rw[show ghi x w=glo x w from pT hd0 he]
      unfold glo
      refine Spec.go [] Tryz.func76 rfl rfl (by kernel_rfl) fun C _=>?_
      try simp(disch:=omega) only[go_sem,Nat.reduceBEq,reduceAdd]
      refine caN (by exact kD) ?_;rintro _ g1 _ q1;obtain⟨v1,_,_,rfl,q1⟩:=q1.sl
      try simp(disch:=omega) only[go_sem,Nat.reduceBEq,reduceAdd]
      refine caN (by exact bU q1) ?_;rintro v2 h2 s2 rfl
      try simp(disch:=omega) only[go_sem,Nat.reduceBEq,reduceAdd]
      try rw[e0]
      try simp(disch:=omega) only[go_sem,Nat.reduceBEq,reduceAdd]
      refine caN (by exact kO) ?_;rintro _ g4 _ q4;obtain⟨v4,_,_,rfl,q4⟩:=q4.sl
      try simp(disch:=omega) only[go_sem,Nat.reduceBEq,reduceAdd]
      refine caN (by exact aL (n:=w) q4 (by omega)) ?_;rintro _ g5 _ q5;obtain⟨_,_,_,rfl,q5⟩:=q5.sl
      try simp(disch:=omega) only[go_sem,Nat.reduceBEq,reduceAdd]
      refine caN (by exact gU q5 (q1.to (h':=g5)) hd0 (by omega) (by omega)) ?_;rintro v6 g6 s6 ⟨q,r,rfl,hq,hr⟩;obtain⟨_,_,_,rfl,hq⟩:=hq.sl;obtain⟨_,_,_,rfl,hr⟩:=hr.sl
      try simp(disch:=omega) only[go_sem,Nat.reduceBEq,reduceAdd]
      refine caN (by exact bU hr) ?_;rintro v7 g7 s7 rfl
      try simp(disch:=omega) only[go_sem,Nat.reduceBEq,reduceAdd]
      try rw[decide_eq_true he]
      try simp(disch:=omega) only[go_sem,Nat.reduceBEq,reduceAdd]
      exact⟨_,_,_,_,_,_,rfl,hq.to,hq.to⟩
    · rw[show ghi x w=glo x w+1 from uA hd0 he]
      unfold glo
      refine Spec.go [] Tryz.func76 rfl rfl (by kernel_rfl) fun C _=>?_
      try simp(disch:=omega) only[go_sem,Nat.reduceBEq,reduceAdd]
      refine caN (by exact kD) ?_;rintro _ g1 _ q1;obtain⟨v1,_,_,rfl,q1⟩:=q1.sl
      try simp(disch:=omega) only[go_sem,Nat.reduceBEq,reduceAdd]
      refine caN (by exact bU q1) ?_;rintro v2 h2 s2 rfl
      try simp(disch:=omega) only[go_sem,Nat.reduceBEq,reduceAdd]
      try rw[e0]
      try simp(disch:=omega) only[go_sem,Nat.reduceBEq,reduceAdd]
      refine caN (by exact kO) ?_;rintro _ g4 _ q4;obtain⟨v4,_,_,rfl,q4⟩:=q4.sl
      try simp(disch:=omega) only[go_sem,Nat.reduceBEq,reduceAdd]
      refine caN (by exact aL (n:=w) q4 (by omega)) ?_;rintro _ g5 _ q5;obtain⟨_,_,_,rfl,q5⟩:=q5.sl
      try simp(disch:=omega) only[go_sem,Nat.reduceBEq,reduceAdd]
      refine caN (by exact gU q5 (q1.to (h':=g5)) hd0 (by omega) (by omega)) ?_;rintro v6 g6 s6 ⟨q,r,rfl,hq,hr⟩;obtain⟨_,_,_,rfl,hq⟩:=hq.sl;obtain⟨_,_,_,rfl,hr⟩:=hr.sl
      try simp(disch:=omega) only[go_sem,Nat.reduceBEq,reduceAdd]
      refine caN (by exact bU hr) ?_;rintro v7 g7 s7 rfl
      try simp(disch:=omega) only[go_sem,Nat.reduceBEq,reduceAdd]
      try rw[decide_eq_false he]
      try simp(disch:=omega) only[go_sem,Nat.reduceBEq,reduceAdd]
      refine caN (by exact aw (n:=1) (by decide)) ?_;rintro _ g8 _ q8;obtain⟨_,_,_,rfl,q8⟩:=q8.sl
      try simp(disch:=omega) only[go_sem,Nat.reduceBEq,reduceAdd]
      refine caN (by exact bR (hq.to (h':=g8)) q8 (by omega) (by decide)) ?_;rintro _ g9 _ q9;obtain⟨_,_,_,rfl,q9⟩:=q9.sl
      try simp(disch:=omega) only[go_sem,Nat.reduceBEq,reduceAdd]
      exact⟨_,_,_,_,_,_,rfl,hq.to,q9⟩
def Bk (h:PH) (v:Value) (x y:Rat):Prop:=∃b1 a1 m1 c1 a2 m2 c2 b2 a3 m3 c3 a4 m4 c4,v=.agg #[.bool b1,.slice a1 m1 c1,.slice a2 m2 c2,.bool b2,.slice a3 m3 c3,.slice a4 m4 c4]∧Cn h (.agg #[.bool b1,.slice a1 m1 c1,.slice a2 m2 c2]) x∧Cn h (.agg #[.bool b2,.slice a3 m3 c3,.slice a4 m4 c4]) y
theorem Bk.to {h h':PH} {v:Value} {x y:Rat} (r:Bk h v x y) [Le h h']:Bk h' v x y:=by
  obtain⟨b1,a1,m1,c1,a2,m2,c2,b2,a3,m3,c3,a4,m4,c4,e,k1,k2⟩:=r
  exact⟨b1,a1,m1,c1,a2,m2,c2,b2,a3,m3,c3,a4,m4,c4,e,k1.to,k2.to⟩
theorem fw {h0 h:PH} [Le h0 h] {v:Value} {a b w p:Nat} {neg:Bool} (hv:Pr h0 v a b) (ba:bl a≤2^30) (bb:bl b≤2^30) (hp:p≤w) (hw:w≤2^30) (hp':p < 2048) (ra:bl (a / 2^(w - p))≤2048) (rb:bl (cdiv b (2^(w - p)))≤2048):
    Spec mach 86 #[v,.int .i64 w,.int .i64 p,.bool neg] h (fun v h'=>Bk h' v (if neg then sgn neg (cdiv b (2^(w - p))) (2^p) else sgn neg (a / 2^(w - p)) (2^p)) (if neg then sgn neg (a / 2^(w - p)) (2^p) else sgn neg (cdiv b (2^(w - p))) (2^p))) NP:=by
  obtain⟨x,m,c,y,n,d,rfl,k1,k2⟩:=hv
  have ew:IntKind.i64.wrap ((w:Int) - (p:Int))=((w - p:Nat):Int):=by rw[wi64 (by omega) (by omega)];omega
  have ew':(w:Int) - (p:Int)=((w - p:Nat):Int):=by omega
  cases neg
  all_goals
    refine Spec.go [(1,.t (.s [0,1,2,3,4,6,7,9,10,11,12,13,15,16] (.a 5 (.a 8 (.a 14 (.a 17 (.s [18] (.a 19 (.a 20 .d .n) .n)) (.a 19 (.a 17 (.s [18] (.a 20 .d .n)) .n) .n)) (.a 19 (.a 14 (.a 17 (.s [18] (.a 20 .d .n)) .n) .n) .n)) (.a 19 (.a 8 (.a 14 (.a 17 (.s [18] (.a 20 .d .n)) .n) .n) .n) .n)) (.a 19 (.a 5 (.a 8 (.a 14 (.a 17 (.s [18] (.a 20 .d .n)) .n) .n) .n) .n) .n))))] Tryz.func86 rfl rfl (by kernel_rfl) fun C _=>?_
    try simp(disch:=omega) only[go_sem,Nat.reduceBEq,reduceAdd,ew']
    (repeat' refine And.intro ?_ ?_)
    all_goals
      refine caN (by exact gD (n:=w - p) k1 (by omega) (by omega)) ?_;rintro _ g1 _ q1;obtain⟨v1,_,_,rfl,q1⟩:=q1.sl
      try simp(disch:=omega) only[go_sem,Nat.reduceBEq,reduceAdd]
      (repeat' refine And.intro ?_ ?_)
      all_goals
        refine caN (by exact aO (n:=p) q1 ra hp') ?_;rintro v2 g2 s2 q2;obtain⟨_,_,_,_,_,_,_,rfl,q2⟩:=q2.sa
        try simp(disch:=omega) only[go_sem,Nat.reduceBEq,reduceAdd,ew']
        (repeat' refine And.intro ?_ ?_)
        all_goals
          refine caN (by exact kJ (n:=w - p) (k2.to (h':=g2)) (by omega) (by omega)) ?_;rintro _ g3 _ q3;obtain⟨v3,_,_,rfl,q3⟩:=q3.sl
          try simp(disch:=omega) only[go_sem,Nat.reduceBEq,reduceAdd]
          (repeat' refine And.intro ?_ ?_)
          all_goals
            refine caN (by exact aO (n:=p) q3 rb hp') ?_;rintro v4 g4 s4 q4;obtain⟨_,_,_,_,_,_,_,rfl,q4⟩:=q4.sa
            try simp(disch:=omega) only[go_sem,Nat.reduceBEq,reduceAdd]
            (repeat' refine And.intro ?_ ?_)
            all_goals
              try simp(disch:=omega) only[go_sem,Nat.reduceBEq,reduceAdd]
              first
                |exact⟨_,_,_,_,_,_,_,_,_,_,_,_,_,_,rfl,q2.to,q4⟩
                |exact⟨_,_,_,_,_,_,_,_,_,_,_,_,_,_,rfl,q4,q2.to⟩
theorem o8 {h0 h:PH} [Le h0 h] {v:Value} {a b w:Nat} (hv:Pr h0 v a b) (ba:bl a≤2^30) (bb:bl b≤2^30) (hw:w≤2^30):
    Spec mach 168 #[v,.int .i64 w] h (fun v h'=>Pr h' v (a*a / 2^w) (cdiv (b*b) (2^w))) NP:=by
  obtain⟨x,m,c,y,n,d,rfl,k1,k2⟩:=hv
  have b1:=aG a a
  have b2:=aG b b
  refine Spec.go [(1,.o [0,1,2,3,5,7,8,9,10,12,4,6,11,13,14,15])] Tryz.func168 rfl rfl (by kernel_rfl) fun C _=>?_
  try simp(disch:=omega) only[go_sem,Nat.reduceBEq,reduceAdd]
  refine caN (by exact aI k1 k1 (by omega) (by omega)) ?_;rintro _ g1 _ q1;obtain⟨v1,_,_,rfl,q1⟩:=q1.sl
  try simp(disch:=omega) only[go_sem,Nat.reduceBEq,reduceAdd]
  refine caN (by exact gD (n:=w) q1 (by omega) (by omega)) ?_;rintro _ g2 _ q2;obtain⟨v2,_,_,rfl,q2⟩:=q2.sl
  try simp(disch:=omega) only[go_sem,Nat.reduceBEq,reduceAdd]
  refine caN (by exact aI (k2.to (h':=g2)) (k2.to (h':=g2)) (by omega) (by omega)) ?_;rintro _ g3 _ q3;obtain⟨v3,_,_,rfl,q3⟩:=q3.sl
  try simp(disch:=omega) only[go_sem,Nat.reduceBEq,reduceAdd]
  refine caN (by exact kJ (n:=w) q3 (by omega) (by omega)) ?_;rintro _ g4 _ q4;obtain⟨v4,_,_,rfl,q4⟩:=q4.sl
  try simp(disch:=omega) only[go_sem,Nat.reduceBEq,reduceAdd]
  exact⟨_,_,_,_,_,_,rfl,q2.to,q4⟩
theorem jh {h0 h:PH} [Le h0 h] {v:Value} {a b n:Nat} (hv:Pr h0 v a b) (ba:bl a≤2^30) (bb:bl b≤2^30) (hn:n≤2^30):
    Spec mach 101 #[v,.int .i64 n] h (fun v h'=>Pr h' v (a*2^n) (b*2^n)) NP:=by
  obtain⟨x,m,c,y,l,d,rfl,k1,k2⟩:=hv
  refine Spec.go [(1,.o [0,1,2,4,5,6,3,7,8,9])] Tryz.func101 rfl rfl (by kernel_rfl) fun C _=>?_
  try simp(disch:=omega) only[go_sem,Nat.reduceBEq,reduceAdd]
  refine caN (by exact aL (n:=n) k1 (by omega)) ?_;rintro _ g1 _ q1;obtain⟨v1,_,_,rfl,q1⟩:=q1.sl
  try simp(disch:=omega) only[go_sem,Nat.reduceBEq,reduceAdd]
  refine caN (by exact aL (n:=n) (k2.to (h':=g1)) (by omega)) ?_;rintro _ g2 _ q2;obtain⟨v2,_,_,rfl,q2⟩:=q2.sl
  try simp(disch:=omega) only[go_sem,Nat.reduceBEq,reduceAdd]
  exact⟨_,_,_,_,_,_,rfl,q1.to,q2⟩
theorem N32.len0y {h:PH} {a:Option Addr} {l c n:Nat} (r:N32 h (.slice a l c) n):l=0↔n=0:=by
  obtain⟨a',c',e,_⟩:=r
  cases e
  exact nP (by decide)
theorem Cn.parts {h:PH} {v:Value} {x:Rat} (r:Cn h v x):∃na nl nc da dl dc,v=.agg #[.bool (decide (x.num < 0)),.slice na nl nc,.slice da dl dc]∧N32 h (.slice na nl nc) x.num.natAbs∧N32 h (.slice da dl dc) (if x.den=1 then 0 else x.den)∧(nl=0↔x=0)∧(dl=0↔x.den=1):=by
  obtain⟨sn,sd,rfl,h1,h2⟩:=r
  obtain⟨na,nl,nc,rfl,h1⟩:=h1.sl
  obtain⟨da,dl,dc,rfl,h2⟩:=h2.sl
  refine⟨_,_,_,_,_,_,rfl,h1,h2,?_,?_⟩
  · rw[h1.len0y,Int.natAbs_eq_zero,Rat.num_eq_zero]
  · rw[h2.len0y]
    have:=x.den_nz
    split<;>omega
theorem jg {h0 h:PH} [Le h0 h] {v:Value} {x:Rat} (hx:Cn h0 v x):Spec mach 89 #[v] h (fun v h'=>N32 h' v x.den) NP:=by
  obtain⟨na,nl,nc,da,dl,dc,rfl,hn,hd,e1,e2⟩:=hx.parts
  by_cases h1:x.den=1
  · have e3:((dl:Int) == 0)=true:=by simp[e2.2 h1]
    rw[h1]
    refine Spec.go [] Tryz.func89 rfl rfl (by kernel_rfl) fun C _=>?_
    simp(maxSteps:=999999) (disch:=omega) only[go_sem,Nat.reduceBEq,reduceAdd,e3]
    refine caN (by exact aw (n:=1) (by decide)) ?_;rintro _ g1 _ q1;obtain⟨v1,_,_,rfl,q1⟩:=q1.sl
    simp(maxSteps:=999999) (disch:=omega) only[go_sem,Nat.reduceBEq,reduceAdd]
    exact q1
  · have e3:((dl:Int) == 0)=false:=by have:=mt e2.1 h1;simp;omega
    rw[if_neg h1] at hd
    refine Spec.go [] Tryz.func89 rfl rfl (by kernel_rfl) fun C _=>?_
    simp(maxSteps:=999999) (disch:=omega) only[go_sem,Nat.reduceBEq,reduceAdd,e3]
    exact hd.to
theorem Cf {h0 h:PH} [Le h0 h] {v:Value} {x:Rat} (hx:Cn h0 v x):Spec mach 192 #[v] h (fun v _=>v=.bool (decide (x=1))) NP:=by
  obtain⟨na,nl,nc,da,dl,dc,rfl,hn,hd,e1,e2⟩:=hx.parts
  have kO:=fun {h} [Le h0 h]=>rH (h:=h) hn
  have e4:x=1↔¬x.num < 0∧x.den=1∧x.num.natAbs=1:=by
    constructor
    · rintro rfl;decide
    · rintro⟨k1,k2,k3⟩
      apply Rat.ext
      · show x.num=1;omega
      · show x.den=1;exact k2
  cases hs:decide (x.num < 0) with
  | true=>
    have hs':=of_decide_eq_true hs
    rw[decide_eq_false (fun k=>(e4.1 k).1 hs')]
    refine Spec.go [] Tryz.func192 rfl rfl (by kernel_rfl) fun C _=>?_
    simp(maxSteps:=999999) (disch:=omega) only[go_sem,Nat.reduceBEq,reduceAdd]
  | false=>
    have hs':=of_decide_eq_false hs
    by_cases h1:x.den=1
    · have e3:((dl:Int) == 0)=true:=by simp[e2.2 h1]
      rw[show decide (x=1)=decide (x.num.natAbs=1) by simp only[e4,h1,hs',true_and,not_false_eq_true]]
      refine Spec.go [] Tryz.func192 rfl rfl (by kernel_rfl) fun C _=>?_
      simp(maxSteps:=999999) (disch:=omega) only[go_sem,Nat.reduceBEq,reduceAdd,e3]
      refine caN (by exact kO) ?_;rintro _ g1 _ q1;obtain⟨v1,_,_,rfl,q1⟩:=q1.sl
      simp(maxSteps:=999999) (disch:=omega) only[go_sem,Nat.reduceBEq,reduceAdd]
      refine caN (by exact wY q1) ?_;rintro v2 h2 s2 rfl
      simp(maxSteps:=999999) (disch:=omega) only[go_sem,Nat.reduceBEq,reduceAdd]
    · have e3:((dl:Int) == 0)=false:=by have:=mt e2.1 h1;simp;omega
      rw[decide_eq_false (fun k=>h1 (e4.1 k).2.1)]
      refine Spec.go [] Tryz.func192 rfl rfl (by kernel_rfl) fun C _=>?_
      simp(maxSteps:=999999) (disch:=omega) only[go_sem,Nat.reduceBEq,reduceAdd,e3]
def defB (fn:Int) (x:Rat):Bool:=if fn=2 then decide (0 < x) else if fn=6∨fn=7 then decide (x.num.natAbs≤x.den) else true
theorem dE {h0 h:PH} [Le h0 h] {v:Value} {x:Rat} {fn:Int} (hx:Cn h0 v x):Spec mach 190 #[.int .i64 fn,v] h (fun v _=>v=.bool (defB fn x)) NP:=by
  have kW:=fun {h} [Le h0 h]=>jg (h:=h) hx
  obtain⟨na,nl,nc,da,dl,dc,rfl,hn,hd,e1,e2⟩:=hx.parts
  have kO:=fun {h} [Le h0 h]=>rH (h:=h) hn
  unfold defB
  by_cases h2:fn=2
  · subst h2
    rw[if_pos rfl]
    cases hs:decide (x.num < 0) with
    | true=>
      have hs':=of_decide_eq_true hs
      rw[decide_eq_false (show ¬0 < x by rw[num_neg] at hs';grind)]
      refine Spec.go [(6,.o [0,1,3,2,4,5,6,7])] Tryz.func190 rfl rfl (by kernel_rfl) fun C _=>?_
      simp(maxSteps:=999999) (disch:=omega) only[go_sem,Nat.reduceBEq,reduceAdd]
    | false=>
      have hs':=of_decide_eq_false hs
      rw[num_neg] at hs'
      by_cases h0':x=0
      · have e3:decide ((nl:Int) > 0)=false:=decide_eq_false (by have:=e1.2 h0';omega)
        rw[decide_eq_false (show ¬0 < x by grind)]
        refine Spec.go [(6,.o [0,1,3,2,4,5,6,7])] Tryz.func190 rfl rfl (by kernel_rfl) fun C _=>?_
        simp(maxSteps:=999999) (disch:=omega) only[go_sem,Nat.reduceBEq,reduceAdd,e3]
      · have e3:decide ((nl:Int) > 0)=true:=decide_eq_true (by have:=mt e1.1 h0';omega)
        rw[decide_eq_true (show 0 < x by grind)]
        refine Spec.go [(6,.o [0,1,3,2,4,5,6,7])] Tryz.func190 rfl rfl (by kernel_rfl) fun C _=>?_
        simp(maxSteps:=999999) (disch:=omega) only[go_sem,Nat.reduceBEq,reduceAdd,e3]
  · have f2:(fn == 2)=false:=by simpa using h2
    rw[if_neg h2]
    by_cases h6:fn=6∨fn=7
    · rw[if_pos h6]
      have e5:decide (cmp3 x.num.natAbs x.den≤0)=decide (x.num.natAbs≤x.den):=by unfold cmp3;grind
      rcases h6 with rfl |rfl
      all_goals
        refine Spec.go [(6,.o [0,1,3,2,4,5,6,7])] Tryz.func190 rfl rfl (by kernel_rfl) fun C _=>?_
        simp(maxSteps:=999999) (disch:=omega) only[go_sem,Nat.reduceBEq,reduceAdd]
        refine caN (by exact kO) ?_;rintro _ g1 _ q1;obtain⟨v1,_,_,rfl,q1⟩:=q1.sl
        simp(maxSteps:=999999) (disch:=omega) only[go_sem,Nat.reduceBEq,reduceAdd]
        refine caN (by exact kW) ?_;rintro _ g2 _ q2;obtain⟨v2,_,_,rfl,q2⟩:=q2.sl
        simp(maxSteps:=999999) (disch:=omega) only[go_sem,Nat.reduceBEq,reduceAdd]
        refine caN (by exact fO (q1.to (h':=g2)) q2) ?_;rintro v3 h3 s3 rfl
        simp(maxSteps:=999999) (disch:=omega) only[go_sem,Nat.reduceBEq,reduceAdd,e5]
    · have f6:(fn == 6)=false:=by simp;omega
      have f7:(fn == 7)=false:=by simp;omega
      rw[if_neg h6]
      refine Spec.go [(6,.o [0,1,3,2,4,5,6,7])] Tryz.func190 rfl rfl (by kernel_rfl) fun C _=>?_
      simp(maxSteps:=999999) (disch:=omega) only[go_sem,Nat.reduceBEq,reduceAdd,f2,f6,f7]
def exB (fn:Int) (x:Rat):Bool:=if fn=2∨fn=7 then decide (x=1) else decide (x=0)
def exV (fn:Int) (x:Rat):Rat:=if (fn=1∨fn=4)∧x=0 then 1 else 0
theorem ni {h0 h:PH} [Le h0 h] {v:Value} {x:Rat} {fn:Int} (hx:Cn h0 v x):Spec mach 106 #[.int .i64 fn,v] h (fun r h'=>∃b na nl nc da dl dc,r=.tuple #[.agg #[.bool b,.slice na nl nc,.slice da dl dc],.bool (exB fn x)]∧Cn h' (.agg #[.bool b,.slice na nl nc,.slice da dl dc]) (exV fn x)) NP:=by
  have kI:=fun {h} [Le h0 h]=>Cf (h:=h) hx
  obtain⟨na,nl,nc,da,dl,dc,rfl,hn,hd,e1,e2⟩:=hx.parts
  have e3:((nl:Int) == 0)=decide (x=0):=by
    rw[Bool.eq_iff_iff];simp only[beq_iff_eq,decide_eq_true_eq,←e1];omega
  unfold exB exV
  by_cases h14:fn=1∨fn=4
  · rw[if_neg (show ¬(fn=2∨fn=7) by omega)]
    by_cases hz:x=0
    · rw[decide_eq_true hz] at e3
      rw[if_pos ⟨h14,hz⟩,decide_eq_true hz]
      rcases h14 with rfl |rfl
      all_goals
        refine Spec.go [(2,.y (.a 0 (.a 1 (.a 2 (.a 3 (.a 4 (.a 5 (.a 6 .d .n) .n) (.a 5 (.a 4 (.a 6 .d .n) .n) .n)) (.a 5 (.a 3 (.a 4 (.a 6 .d .n) .n) .n) .n)) (.a 5 (.a 2 (.a 3 (.a 4 (.a 6 .d .n) .n) .n) .n) .n)) (.a 5 (.a 1 (.a 2 (.a 3 (.a 4 (.a 6 .d .n) .n) .n) .n) .n) .n)) (.a 1 (.a 0 (.a 2 (.a 3 (.a 4 (.a 5 (.a 6 .d .n) .n) (.a 5 (.a 4 (.a 6 .d .n) .n) .n)) (.a 5 (.a 3 (.a 4 (.a 6 .d .n) .n) .n) .n)) (.a 5 (.a 2 (.a 3 (.a 4 (.a 6 .d .n) .n) .n) .n) .n)) (.a 2 (.a 0 (.a 3 (.a 4 (.a 5 (.a 6 .d .n) .n) (.a 5 (.a 4 (.a 6 .d .n) .n) .n)) (.a 5 (.a 3 (.a 4 (.a 6 .d .n) .n) .n) .n)) (.a 3 (.a 0 (.a 4 (.a 5 (.a 6 .d .n) .n) (.a 5 (.a 4 (.a 6 .d .n) .n) .n)) (.a 4 (.a 0 (.a 5 (.a 6 .d .n) .n) .n) .n)) .n)) .n)) .n)))] Tryz.func106 rfl rfl (by kernel_rfl) fun C _=>?_
        simp(maxSteps:=999999) (disch:=omega) only[go_sem,Nat.reduceBEq,reduceAdd,e3]
        refine caN (by exact oQ (n:=1) (by decide) (by decide)) ?_;rintro v1 h1 s1 c;obtain⟨_,_,_,_,_,_,_,rfl,c⟩:=c.sa
        simp(maxSteps:=999999) (disch:=omega) only[go_sem,Nat.reduceBEq,reduceAdd]
        exact⟨_,_,_,_,_,_,_,rfl,c⟩
    · rw[decide_eq_false hz] at e3
      rw[if_neg (fun k=>hz k.2),decide_eq_false hz]
      rcases h14 with rfl |rfl
      all_goals
        refine Spec.go [(2,.y (.a 0 (.a 1 (.a 2 (.a 3 (.a 4 (.a 5 (.a 6 .d .n) .n) (.a 5 (.a 4 (.a 6 .d .n) .n) .n)) (.a 5 (.a 3 (.a 4 (.a 6 .d .n) .n) .n) .n)) (.a 5 (.a 2 (.a 3 (.a 4 (.a 6 .d .n) .n) .n) .n) .n)) (.a 5 (.a 1 (.a 2 (.a 3 (.a 4 (.a 6 .d .n) .n) .n) .n) .n) .n)) (.a 1 (.a 0 (.a 2 (.a 3 (.a 4 (.a 5 (.a 6 .d .n) .n) (.a 5 (.a 4 (.a 6 .d .n) .n) .n)) (.a 5 (.a 3 (.a 4 (.a 6 .d .n) .n) .n) .n)) (.a 5 (.a 2 (.a 3 (.a 4 (.a 6 .d .n) .n) .n) .n) .n)) (.a 2 (.a 0 (.a 3 (.a 4 (.a 5 (.a 6 .d .n) .n) (.a 5 (.a 4 (.a 6 .d .n) .n) .n)) (.a 5 (.a 3 (.a 4 (.a 6 .d .n) .n) .n) .n)) (.a 3 (.a 0 (.a 4 (.a 5 (.a 6 .d .n) .n) (.a 5 (.a 4 (.a 6 .d .n) .n) .n)) (.a 4 (.a 0 (.a 5 (.a 6 .d .n) .n) .n) .n)) .n)) .n)) .n)))] Tryz.func106 rfl rfl (by kernel_rfl) fun C _=>?_
        simp(maxSteps:=999999) (disch:=omega) only[go_sem,Nat.reduceBEq,reduceAdd,e3]
        exact⟨_,_,_,_,_,_,_,rfl,Cn.nul _⟩
  · rw[if_neg (show ¬((fn=1∨fn=4)∧x=0) from fun k=>h14 k.1)]
    by_cases h27:fn=2∨fn=7
    · rw[if_pos h27]
      rcases h27 with rfl |rfl
      all_goals
        refine Spec.go [(2,.y (.a 0 (.a 1 (.a 2 (.a 3 (.a 4 (.a 5 (.a 6 .d .n) .n) (.a 5 (.a 4 (.a 6 .d .n) .n) .n)) (.a 5 (.a 3 (.a 4 (.a 6 .d .n) .n) .n) .n)) (.a 5 (.a 2 (.a 3 (.a 4 (.a 6 .d .n) .n) .n) .n) .n)) (.a 5 (.a 1 (.a 2 (.a 3 (.a 4 (.a 6 .d .n) .n) .n) .n) .n) .n)) (.a 1 (.a 0 (.a 2 (.a 3 (.a 4 (.a 5 (.a 6 .d .n) .n) (.a 5 (.a 4 (.a 6 .d .n) .n) .n)) (.a 5 (.a 3 (.a 4 (.a 6 .d .n) .n) .n) .n)) (.a 5 (.a 2 (.a 3 (.a 4 (.a 6 .d .n) .n) .n) .n) .n)) (.a 2 (.a 0 (.a 3 (.a 4 (.a 5 (.a 6 .d .n) .n) (.a 5 (.a 4 (.a 6 .d .n) .n) .n)) (.a 5 (.a 3 (.a 4 (.a 6 .d .n) .n) .n) .n)) (.a 3 (.a 0 (.a 4 (.a 5 (.a 6 .d .n) .n) (.a 5 (.a 4 (.a 6 .d .n) .n) .n)) (.a 4 (.a 0 (.a 5 (.a 6 .d .n) .n) .n) .n)) .n)) .n)) .n)))] Tryz.func106 rfl rfl (by kernel_rfl) fun C _=>?_
        simp(maxSteps:=999999) (disch:=omega) only[go_sem,Nat.reduceBEq,reduceAdd]
        refine caN (by exact kI) ?_;rintro v1 h1 s1 rfl
        simp(maxSteps:=999999) (disch:=omega) only[go_sem,Nat.reduceBEq,reduceAdd]
        exact⟨_,_,_,_,_,_,_,rfl,Cn.nul _⟩
    · rw[if_neg h27]
      have f1:(fn == 1)=false:=by simp;omega
      have f2:(fn == 2)=false:=by simp;omega
      have f4:(fn == 4)=false:=by simp;omega
      have f7:(fn == 7)=false:=by simp;omega
      refine Spec.go [(2,.y (.a 0 (.a 1 (.a 2 (.a 3 (.a 4 (.a 5 (.a 6 .d .n) .n) (.a 5 (.a 4 (.a 6 .d .n) .n) .n)) (.a 5 (.a 3 (.a 4 (.a 6 .d .n) .n) .n) .n)) (.a 5 (.a 2 (.a 3 (.a 4 (.a 6 .d .n) .n) .n) .n) .n)) (.a 5 (.a 1 (.a 2 (.a 3 (.a 4 (.a 6 .d .n) .n) .n) .n) .n) .n)) (.a 1 (.a 0 (.a 2 (.a 3 (.a 4 (.a 5 (.a 6 .d .n) .n) (.a 5 (.a 4 (.a 6 .d .n) .n) .n)) (.a 5 (.a 3 (.a 4 (.a 6 .d .n) .n) .n) .n)) (.a 5 (.a 2 (.a 3 (.a 4 (.a 6 .d .n) .n) .n) .n) .n)) (.a 2 (.a 0 (.a 3 (.a 4 (.a 5 (.a 6 .d .n) .n) (.a 5 (.a 4 (.a 6 .d .n) .n) .n)) (.a 5 (.a 3 (.a 4 (.a 6 .d .n) .n) .n) .n)) (.a 3 (.a 0 (.a 4 (.a 5 (.a 6 .d .n) .n) (.a 5 (.a 4 (.a 6 .d .n) .n) .n)) (.a 4 (.a 0 (.a 5 (.a 6 .d .n) .n) .n) .n)) .n)) .n)) .n)))] Tryz.func106 rfl rfl (by kernel_rfl) fun C _=>?_
      simp(maxSteps:=999999) (disch:=omega) only[go_sem,Nat.reduceBEq,reduceAdd,f1,f2,f4,f7,e3,and_self]
      exact⟨_,_,_,_,_,_,_,rfl,Cn.nul _⟩
theorem qv {h0 h:PH} [Le h0 h] {v:Value} {x:Rat} {fn:Int} (hx:Rv h0 v x) (hf:1≤fn∧fn≤8):Spec mach 32 #[.int .i64 fn,v] h (fun r h'=>∃b na nl nc da dl dc,r=.tuple #[.agg #[.bool b,.slice na nl nc,.slice da dl dc],.int .i64 0]∧Cn h' (.agg #[.bool b,.slice na nl nc,.slice da dl dc]) x) NP:=by
  have kC:=fun {h} [Le h0 h]=>iW (h:=h) hx
  obtain⟨_,_,_,_,_,_,_,rfl,_⟩:=hx.sa
  refine Spec.go [] Tryz.func32 rfl rfl (by kernel_rfl) fun C _=>?_
  simp(maxSteps:=999999) (disch:=omega) only[go_sem,Nat.reduceBEq,reduceAdd]
  refine caN (by exact kC) ?_;rintro v1 h1 s1 ⟨_,_,_,_,_,_,_,rfl,c⟩
  simp(maxSteps:=999999) (disch:=omega) only[go_sem,Nat.reduceBEq,reduceAdd]
  exact⟨_,_,_,_,_,_,_,rfl,c⟩
theorem oO {h0 h:PH} [Le h0 h] {v:Value} {x:Rat} {fn:Int} (hx:Rv h0 v x) (hf:¬(1≤fn∧fn≤8)):Spec mach 32 #[.int .i64 fn,v] h (fun r _=>r=.tuple #[.agg #[.bool false,.slice none 0 0,.slice none 0 0],.int .i64 2]) NP:=by
  have kC:=fun {h} [Le h0 h]=>iW (h:=h) hx
  obtain⟨_,_,_,_,_,_,_,rfl,_⟩:=hx.sa
  rcases Int.lt_or_le fn 1 with h1 |h1
  all_goals
    refine Spec.go [] Tryz.func32 rfl rfl (by kernel_rfl) fun C _=>?_
    simp(maxSteps:=999999) (disch:=omega) only[go_sem,Nat.reduceBEq,reduceAdd]
    refine caN (by exact kC) ?_;rintro v1 h1 s1 ⟨_,_,_,_,_,_,_,rfl,c⟩
    simp(maxSteps:=999999) (disch:=omega) only[go_sem,Nat.reduceBEq,reduceAdd]
    all_goals omega
theorem qu {h0 h:PH} [Le h0 h] {v:Value} {neg:Bool} {n d:Nat} {fn:Int} (hv:Rw h0 v neg n d) (hl:lg neg n d):Spec mach 32 #[.int .i64 fn,v] h (fun r _=>r=.tuple #[.agg #[.bool false,.slice none 0 0,.slice none 0 0],.int .i64 1]) NP:=by
  have kC:=fun {h} [Le h0 h]=>gX (h:=h) hv hl
  obtain⟨_,_,_,_,_,_,_,rfl,_⟩:=hv.sa
  refine Spec.go [] Tryz.func32 rfl rfl (by kernel_rfl) fun C _=>?_
  simp(maxSteps:=999999) (disch:=omega) only[go_sem,Nat.reduceBEq,reduceAdd]
  refine caN (by exact kC) ?_;rintro v1 h1 s1 rfl
  simp(maxSteps:=999999) (disch:=omega) only[go_sem,Nat.reduceBEq,reduceAdd]
  all_goals omega
theorem di {h:PH} {k:Int} {n:Nat} (ek:IntKind.u64.wrap k=(n:Int)) (hn:n < 2^64):Spec mach 262 #[.int .i64 k] h (fun v h'=>N16 h' v n) NP:=by
  refine Spec.go [] Tryz.func262 rfl rfl (by kernel_rfl) fun C _=>?_
  try simp(disch:=omega) only[go_sem,Nat.reduceBEq,reduceAdd,ek]
  refine caN (by exact bQ (n:=n) hn) ?_;rintro _ g1 _ q1;obtain⟨v1,_,_,rfl,q1⟩:=q1.sl
  try simp(disch:=omega) only[go_sem,Nat.reduceBEq,reduceAdd]
  exact q1
theorem rJ {h0 h:PH} [Le h0 h] {v w:Value} {a d:Nat} (hv:N16 h0 v a) (hw:N16 h0 w d) (hd:d≠0) (ba:bl a≤2^36) (bd:bl d≤2^36):Spec mach 223 #[v,w] h (fun v h'=>N16 h' v (a / d)) NP:=by
  have kD:=fun {h} [Le h0 h]=>dJ (h:=h) hv hw hd (by omega) (by omega)
  obtain⟨_,_,_,rfl,_⟩:=hv.sl
  obtain⟨_,_,_,rfl,_⟩:=hw.sl
  refine Spec.go [] Tryz.func223 rfl rfl (by kernel_rfl) fun C _=>?_
  try simp(disch:=omega) only[go_sem,Nat.reduceBEq,reduceAdd]
  refine caN (by exact kD) ?_;rintro v1 h1 s1 ⟨q,r,rfl,hq,hr⟩;obtain⟨_,_,_,rfl,hq⟩:=hq.sl;obtain⟨_,_,_,rfl,hr⟩:=hr.sl
  try simp(disch:=omega) only[go_sem,Nat.reduceBEq,reduceAdd]
  exact hq
theorem xg {h0 h:PH} [Le h0 h] {v w:Value} {a d:Nat} (hv:N16 h0 v a) (hw:N16 h0 w d) (hd:d≠0) (ba:bl a≤2^36) (bd:bl d≤2^36):Spec mach 225 #[v,w] h (fun v h'=>N16 h' v (cdiv a d)) NP:=by
  have b1:=aZ a d
  have kD:=fun {h} [Le h0 h]=>dJ (h:=h) hv hw hd (by omega) (by omega)
  obtain⟨_,_,_,rfl,_⟩:=hv.sl
  obtain⟨_,_,_,rfl,_⟩:=hw.sl
  have e0:decide (cmp3 (a % d) 0 > 0)=decide (a % d≠0):=by unfold cmp3;grind
  by_cases he:a % d=0
  · rw[pT hd he]
    rw[decide_eq_false (show ¬a % d≠0 from fun k=>k he)] at e0
    refine Spec.go [] Tryz.func225 rfl rfl (by kernel_rfl) fun C _=>?_
    try simp(disch:=omega) only[go_sem,Nat.reduceBEq,reduceAdd]
    refine caN (by exact kD) ?_;rintro v1 h1 s1 ⟨q,r,rfl,hq,hr⟩;obtain⟨_,_,_,rfl,hq⟩:=hq.sl;obtain⟨_,_,_,rfl,hr⟩:=hr.sl
    try simp(disch:=omega) only[go_sem,Nat.reduceBEq,reduceAdd]
    refine caN (by exact di (k:=0) (n:=0) (by decide) (by decide)) ?_;rintro _ g2 _ q2;obtain⟨v2,_,_,rfl,q2⟩:=q2.sl
    try simp(disch:=omega) only[go_sem,Nat.reduceBEq,reduceAdd]
    refine caN (by exact eI (hr.to (h':=g2)) q2) ?_;rintro v3 h3 s3 rfl
    try simp(disch:=omega) only[go_sem,Nat.reduceBEq,reduceAdd,e0]
    exact hq.to
  · rw[uA hd he]
    rw[decide_eq_true he] at e0
    refine Spec.go [] Tryz.func225 rfl rfl (by kernel_rfl) fun C _=>?_
    try simp(disch:=omega) only[go_sem,Nat.reduceBEq,reduceAdd]
    refine caN (by exact kD) ?_;rintro v1 h1 s1 ⟨q,r,rfl,hq,hr⟩;obtain⟨_,_,_,rfl,hq⟩:=hq.sl;obtain⟨_,_,_,rfl,hr⟩:=hr.sl
    try simp(disch:=omega) only[go_sem,Nat.reduceBEq,reduceAdd]
    refine caN (by exact di (k:=0) (n:=0) (by decide) (by decide)) ?_;rintro _ g2 _ q2;obtain⟨v2,_,_,rfl,q2⟩:=q2.sl
    try simp(disch:=omega) only[go_sem,Nat.reduceBEq,reduceAdd]
    refine caN (by exact eI (hr.to (h':=g2)) q2) ?_;rintro v3 h3 s3 rfl
    try simp(disch:=omega) only[go_sem,Nat.reduceBEq,reduceAdd,e0]
    refine caN (by exact di (k:=1) (n:=1) (by decide) (by decide)) ?_;rintro _ g4 _ q4;obtain⟨v4,_,_,rfl,q4⟩:=q4.sl
    try simp(disch:=omega) only[go_sem,Nat.reduceBEq,reduceAdd]
    refine caN (by exact nr (hq.to (h':=g4)) q4 (by omega) (by decide)) ?_;rintro _ g5 _ q5;obtain⟨v5,_,_,rfl,q5⟩:=q5.sl
    try simp(disch:=omega) only[go_sem,Nat.reduceBEq,reduceAdd]
    exact q5
theorem jO {h:PH} {w:Nat} (hw:w≤2^30):Spec mach 224 #[.int .i64 w] h (fun v h'=>N16 h' v (2^w)) NP:=by
  have e:=Nat.one_mul (2^w)
  refine Spec.go [] Tryz.func224 rfl rfl (by kernel_rfl) fun C _=>?_
  try simp(disch:=omega) only[go_sem,Nat.reduceBEq,reduceAdd]
  refine caN (by exact di (k:=1) (n:=1) (by decide) (by decide)) ?_;rintro _ g1 _ q1;obtain⟨v1,_,_,rfl,q1⟩:=q1.sl
  try simp(disch:=omega) only[go_sem,Nat.reduceBEq,reduceAdd]
  refine caN (by exact gf (n:=w) q1 (by have:=fI;omega)) ?_;rintro _ g2 _ q2;obtain⟨v2,_,_,rfl,q2⟩:=q2.sl
  try simp(disch:=omega) only[go_sem,Nat.reduceBEq,reduceAdd]
  rw[e] at q2
  exact q2
theorem nu {h0 h:PH} [Le h0 h] {v w:Value} {a b n:Nat} {u:Bool} (hv:N16 h0 v a) (hw:N16 h0 w b) (ba:bl a≤2^30) (bb:bl b≤2^30) (hn:n≤2^30):Spec mach 266 #[v,w,.int .i64 n,.bool u] h (fun v h'=>N16 h' v (odiv (a*b) (2^n) u)) NP:=by
  have b1:=aG a b
  have b2:=bC n
  have kM:=fun {h} [Le h0 h]=>aV (h:=h) hv hw (by omega) (by omega)
  obtain⟨_,_,_,rfl,_⟩:=hv.sl
  obtain⟨_,_,_,rfl,_⟩:=hw.sl
  cases u with
  | true=>
    refine Spec.go [] Tryz.func266 rfl rfl (by kernel_rfl) fun C _=>?_
    try simp(disch:=omega) only[go_sem,Nat.reduceBEq,reduceAdd]
    refine caN (by exact kM) ?_;rintro _ g1 _ q1;obtain⟨v1,_,_,rfl,q1⟩:=q1.sl
    try simp(disch:=omega) only[go_sem,Nat.reduceBEq,reduceAdd]
    refine caN (by exact jO (w:=n) (by omega)) ?_;rintro _ g2 _ q2;obtain⟨v2,_,_,rfl,q2⟩:=q2.sl
    try simp(disch:=omega) only[go_sem,Nat.reduceBEq,reduceAdd]
    refine caN (by exact xg (q1.to (h':=g2)) q2 (am n) (by omega) (by omega)) ?_;rintro _ g3 _ q3;obtain⟨v3,_,_,rfl,q3⟩:=q3.sl
    try simp(disch:=omega) only[go_sem,Nat.reduceBEq,reduceAdd]
    exact q3
  | false=>
    refine Spec.go [] Tryz.func266 rfl rfl (by kernel_rfl) fun C _=>?_
    try simp(disch:=omega) only[go_sem,Nat.reduceBEq,reduceAdd]
    refine caN (by exact kM) ?_;rintro _ g1 _ q1;obtain⟨v1,_,_,rfl,q1⟩:=q1.sl
    try simp(disch:=omega) only[go_sem,Nat.reduceBEq,reduceAdd]
    refine caN (by exact jO (w:=n) (by omega)) ?_;rintro _ g2 _ q2;obtain⟨v2,_,_,rfl,q2⟩:=q2.sl
    try simp(disch:=omega) only[go_sem,Nat.reduceBEq,reduceAdd]
    refine caN (by exact rJ (q1.to (h':=g2)) q2 (am n) (by omega) (by omega)) ?_;rintro _ g3 _ q3;obtain⟨v3,_,_,rfl,q3⟩:=q3.sl
    try simp(disch:=omega) only[go_sem,Nat.reduceBEq,reduceAdd]
    exact q3
def altN (k x y d w:Nat) (u:Bool):Nat:=odiv (2^w*d - k*(x*y)) (k*d) u
theorem gQ {h0 h:PH} [Le h0 h] {vx vy vd:Value} {x y d w k:Nat} {u:Bool} (hx:N16 h0 vx x) (hy:N16 h0 vy y) (hd:N16 h0 vd d) (hk:0 < k) (hk':k < 2^60) (hd0:d≠0) (hs:k*(x*y)≤2^w*d) (bx:bl x≤2^30) (by_:bl y≤2^30) (bd:bl d≤2^30) (hw:w≤2^30):
    Spec mach 278 #[.int .i64 k,vx,vy,vd,.int .i64 w,.bool u] h (fun v h'=>N16 h' v (altN k x y d w u)) NP:=by
  have b1:=aG x y
  have b2:=bC w
  have b3:=aG (2^w) d
  have b4:=aG k (x*y)
  have b5:bl k≤60:=bl_le.2 hk'
  have b6:=aG k d
  have b7:bl (2^w*d - k*(x*y))≤bl (2^w*d):=aR (Nat.sub_le _ _)
  have ek:IntKind.u64.wrap (k:Int)=(k:Int):=wu64 (by omega) (by omega)
  have hkd:k*d≠0:=Nat.mul_ne_zero (by omega) hd0
  obtain⟨_,_,_,rfl,_⟩:=hx.sl
  obtain⟨_,_,_,rfl,_⟩:=hy.sl
  obtain⟨_,_,_,rfl,_⟩:=hd.sl
  cases u
  all_goals
    refine Spec.go [] Tryz.func278 rfl rfl (by kernel_rfl) fun C _=>?_
    try simp(disch:=omega) only[go_sem,Nat.reduceBEq,reduceAdd]
    refine caN (by exact jO (w:=w) (by omega)) ?_;rintro _ g1 _ q1;obtain⟨v1,_,_,rfl,q1⟩:=q1.sl
    try simp(disch:=omega) only[go_sem,Nat.reduceBEq,reduceAdd]
    refine caN (by exact aV q1 (hd.to (h':=g1)) (by omega) (by omega)) ?_;rintro _ g2 _ q2;obtain⟨v2,_,_,rfl,q2⟩:=q2.sl
    try simp(disch:=omega) only[go_sem,Nat.reduceBEq,reduceAdd]
    refine caN (by exact di (n:=k) ek (by omega)) ?_;rintro _ g3 _ q3;obtain⟨v3,_,_,rfl,q3⟩:=q3.sl
    try simp(disch:=omega) only[go_sem,Nat.reduceBEq,reduceAdd]
    refine caN (by exact aV (hx.to (h':=g3)) (hy.to (h':=g3)) (by omega) (by omega)) ?_;rintro _ g4 _ q4;obtain⟨v4,_,_,rfl,q4⟩:=q4.sl
    try simp(disch:=omega) only[go_sem,Nat.reduceBEq,reduceAdd]
    refine caN (by exact aV (q3.to (h':=g4)) q4 (by omega) (by omega)) ?_;rintro _ g5 _ q5;obtain⟨v5,_,_,rfl,q5⟩:=q5.sl
    try simp(disch:=omega) only[go_sem,Nat.reduceBEq,reduceAdd]
    refine caN (by exact lj (q2.to (h':=g5)) q5 hs (by omega)) ?_;rintro _ g6 _ q6;obtain⟨_,_,_,rfl,q6⟩:=q6.sl
    try simp(disch:=omega) only[go_sem,Nat.reduceBEq,reduceAdd]
    refine caN (by exact di (n:=k) ek (by omega)) ?_;rintro _ g7 _ q7;obtain⟨_,_,_,rfl,q7⟩:=q7.sl
    try simp(disch:=omega) only[go_sem,Nat.reduceBEq,reduceAdd]
    refine caN (by exact aV q7 (hd.to (h':=g7)) (by omega) (by omega)) ?_;rintro _ g8 _ q8;obtain⟨_,_,_,rfl,q8⟩:=q8.sl
    try simp(disch:=omega) only[go_sem,Nat.reduceBEq,reduceAdd]
  · refine caN (by exact rJ (q6.to (h':=g8)) q8 hkd (by omega) (by omega)) ?_;rintro _ g9 _ q9;obtain⟨v9,_,_,rfl,q9⟩:=q9.sl
    try simp(disch:=omega) only[go_sem,Nat.reduceBEq,reduceAdd]
    exact q9
  · refine caN (by exact xg (q6.to (h':=g8)) q8 hkd (by omega) (by omega)) ?_;rintro _ g9 _ q9;obtain⟨v9,_,_,rfl,q9⟩:=q9.sl
    try simp(disch:=omega) only[go_sem,Nat.reduceBEq,reduceAdd]
    exact q9
structure Hid (p:Prop):Prop where
  out:p
theorem Le.trn {a b c:PH} (x:Le a b) (y:Le b c):Le a c:=⟨x.sub.trans y.sub⟩
@[go_sem] theorem uw_get1 (d:Nat):(uw [d])[0]?=some (.int .u32 (d:Nat)):=rfl
theorem az {a d c:Nat} (hd:d≠0):cdiv a d≤c↔a≤d*c:=by
  unfold cdiv
  rw[Nat.div_le_iff_le_mul_add_pred (Nat.pos_of_ne_zero hd)]
  omega
def arcV (w s t:Nat):Bool→Nat→Nat
  |false,0=>(2^w*81 - t*79) / (79*81)
  |true,0=>cdiv (2^w) 79
  |false,j+1=>(2^w*2^w - t*arcV w s t true j*(77 - 2*j)) / ((77 - 2*j)*2^w)
  |true,j+1=>cdiv (2^w*2^w - s*arcV w s t false j*(77 - 2*j)) ((77 - 2*j)*2^w)
theorem EQ (w s t:Nat):arcV w s t false 0=(2^w*81 - t*79) / (79*81):=rfl
theorem vR (w s t:Nat):arcV w s t true 0=cdiv (2^w) 79:=rfl
theorem Az (w s t j:Nat):arcV w s t false (j+1)=(2^w*2^w - t*arcV w s t true j*(77 - 2*j)) / ((77 - 2*j)*2^w):=rfl
theorem vT (w s t j:Nat):arcV w s t true (j+1)=cdiv (2^w*2^w - s*arcV w s t false j*(77 - 2*j)) ((77 - 2*j)*2^w):=rfl
def sqL (a w:Nat):Nat:=a*a / 2^w
def sqH (b w:Nat):Nat:=cdiv (b*b) (2^w)
def arcL (a b w:Nat):Nat:=a*arcV w (sqL a w) (sqH b w) false 39 / 2^w
def arcH (a b w:Nat):Nat:=cdiv (b*arcV w (sqL a w) (sqH b w) true 39) (2^w)
theorem mj {a w:Nat} (h:a≤2^w):sqL a w≤2^w:=by
  unfold sqL
  exact Nat.div_le_of_le_mul (Nat.mul_le_mul h h)
theorem jV {a w:Nat} (h:a≤2^w):sqH a w≤2^w:=by
  unfold sqH
  exact(az (am w)).2 (Nat.mul_le_mul h h)
theorem vG {a k b:Nat} (hb:b≠0):a*b / (k*b)=a / k:=Nat.mul_div_mul_right _ _ (Nat.pos_of_ne_zero hb)
theorem Ay {w s t:Nat}:∀{j:Nat},j≤39→arcV w s t true j≤2^w / (79 - 2*j)+1∧arcV w s t false j≤2^w / (79 - 2*j)
  | 0,_=>by
    refine⟨AG (by decide),?_⟩
    show(2^w*81 - t*79) / (79*81)≤2^w / 79
    rw[←vG (a:=2^w) (k:=79) (b:=81) (by decide)]
    exact Nat.div_le_div_right (Nat.sub_le _ _)
  | j +1,h=>by
    have e:79 - 2*(j+1)=77 - 2*j:=by omega
    have hk:(77 - 2*j)*2^w≠0:=Nat.mul_ne_zero (by omega) (am w)
    have em:2^w*2^w / ((77 - 2*j)*2^w)=2^w / (77 - 2*j):=vG (am w)
    rw[e]
    constructor
    · refine Nat.le_trans (AG hk) ?_
      rw[←em]
      exact Nat.add_le_add_right (Nat.div_le_div_right (Nat.sub_le _ _)) 1
    · rw[←em]
      exact Nat.div_le_div_right (Nat.sub_le _ _)
theorem Gx {u m k t v:Nat} (hu:2^20≤u) (hm:m≤112) (hm0:0 < m) (hk:k+2≤m) (ht:t≤u) (hv:v≤u / m+1):t*v*k≤u*u:=by
  have hq:112≤u / m:=by
    rw[Nat.le_div_iff_mul_le hm0]
    have:112*m≤112*112:=Nat.mul_le_mul_left _ hm
    omega
  have hd:=Nat.mul_div_le u m
  generalize u / m=q at*
  have h1:k*(q+1)≤u:=by
    have e1:k*(q+1)+2*(q+1)≤m*(q+1):=by rw[←Nat.add_mul];exact Nat.mul_le_mul_right _ hk
    rw[Nat.mul_add m] at e1
    omega
  have h2:v*k≤u:=Nat.le_trans (Nat.mul_le_mul_right k hv) (by rw[Nat.mul_comm];exact h1)
  rw[Nat.mul_assoc]
  exact Nat.mul_le_mul ht h2
theorem sR {w s t j:Nat} (hw:20≤w) (hs:s≤2^w) (ht:t≤2^w) (hj:j < 39):t*arcV w s t true j*(77 - 2*j)≤2^w*2^w∧s*arcV w s t false j*(77 - 2*j)≤2^w*2^w:=by
  have hu:2^20≤2^w:=Nat.pow_le_pow_right (by decide) hw
  obtain⟨h1,h2⟩:=Ay (w:=w) (s:=s) (t:=t) (j:=j) (by omega)
  exact⟨Gx (m:=79 - 2*j) hu (by omega) (by omega) (by omega) ht h1,Gx (m:=79 - 2*j) hu (by omega) (by omega) (by omega) hs (by omega)⟩
theorem mT {w s t j:Nat} {c:Bool} (hj:j≤39):arcV w s t c j≤2^w+1:=by
  obtain⟨h1,h2⟩:=Ay (w:=w) (s:=s) (t:=t) hj
  have:=Nat.div_le_self (2^w) (79 - 2*j)
  cases c<;>omega
theorem bh {n w:Nat} (h:n≤2^w+1):bl n≤w+2:=by
  refine bl_le.2 ?_
  have:2^(w+2)=4*2^w:=by rw[Nat.pow_add];omega
  have:=Nat.pow_pos (n:=w) (show 0 < 2 by decide)
  omega
theorem GB {w s t j:Nat} {c:Bool} (hj:j≤39):bl (arcV w s t c j)≤w+2:=bh (mT hj)
theorem bl_sq {a w:Nat} (h:a≤2^w):bl (sqL a w)≤w+2∧bl (sqH a w)≤w+2:=⟨bh (by have:=mj h;omega),bh (by have:=jV h;omega)⟩
theorem Gt {a b w:Nat} (ha:a≤2^w):arcL a b w≤2^w+1:=by
  unfold arcL
  exact Nat.div_le_of_le_mul (Nat.mul_le_mul ha (mT (by decide)))
theorem Gs {a b w:Nat} (hb:b≤2^w):arcH a b w≤2^w+1:=by
  unfold arcH
  exact(az (am w)).2 (Nat.mul_le_mul hb (mT (by decide)))
def fifL (n w:Nat):Nat:=arcL (2^w / n) (cdiv (2^w) n) w
def fifH (n w:Nat):Nat:=arcH (2^w / n) (cdiv (2^w) n) w
def piL (w:Nat):Nat:=fifL 5 w*2^4 - fifH 239 w*2^2
def piH (w:Nat):Nat:=fifH 5 w*2^4 - fifL 239 w*2^2
theorem pV (n:Nat) {w:Nat} (hn:n≠0):2^w / n≤2^w∧cdiv (2^w) n≤2^w:=⟨Nat.div_le_self _ _,(az hn).2 (by have:=Nat.mul_le_mul_right (2^w) (Nat.pos_of_ne_zero hn);omega)⟩
theorem uy {n w:Nat} (hn:n≠0):bl (fifL n w)≤w+2∧bl (fifH n w)≤w+2:=⟨bh (Gt (pV n hn).1),bh (Gs (pV n hn).2)⟩
def piOk (w:Nat):Bool:=Nat.ble (fifH 239 w*2^2+3*2^w) (fifL 5 w*2^4) && Nat.ble (fifL 239 w*2^2+3*2^w) (fifH 5 w*2^4) && Nat.ble (piH w) (4*2^w) && Nat.ble (piL w+1) (piH w)
theorem piOk_all:((List.range 161).all fun i=>piOk (i+32))=true:=by decide+kernel
theorem FG {w:Nat} (h1:32≤w) (h2:w≤192):fifH 239 w*2^2+3*2^w≤fifL 5 w*2^4∧fifL 239 w*2^2+3*2^w≤fifH 5 w*2^4∧piH w≤4*2^w∧piL w < piH w:=by
  have h:=List.all_eq_true.1 piOk_all (w - 32) (List.mem_range.2 (by omega))
  rw[show w - 32+32=w by omega] at h
  unfold piOk at h
  simp only[Bool.and_eq_true,Nat.ble_eq] at h
  omega
theorem pn {w:Nat} (h1:32≤w) (h2:w≤192):3*2^w≤piL w∧piL w < piH w∧piH w≤4*2^w:=by
  have:=FG h1 h2
  unfold piL at*
  omega
theorem bl_pi {w:Nat}:bl (piL w)≤w+6∧bl (piH w)≤w+6:=by
  obtain⟨h1,_⟩:=uy (n:=5) (w:=w) (by decide)
  obtain⟨_,h2⟩:=uy (n:=5) (w:=w) (by decide)
  have h3:=cu (fifL 5 w) 4
  have h4:=cu (fifH 5 w) 4
  have h5:bl (piL w)≤bl (fifL 5 w*2^4):=aR (Nat.sub_le _ _)
  have h6:bl (piH w)≤bl (fifH 5 w*2^4):=aR (Nat.sub_le _ _)
  omega
theorem IJ {h0 h:PH} [Le h0 h] {v:Value} {x:Rat} (hx:Qr h0 v x):Spec mach 267 #[v] h (fun v h'=>N16 h' v x.den) NP:=by
  obtain⟨na,nl,nc,da,dl,dc,e,rfl,hn,hd,he⟩:=hx.sl
  have ld:=hd.len0
  by_cases h0:e=0
  · have e3:((dl:Int) == 0)=true:=by simp;omega
    refine Spec.go [] Tryz.func267 rfl rfl (by kernel_rfl) fun C _=>?_
    try simp(disch:=omega) only[go_sem,Nat.reduceBEq,reduceAdd,e3]
    refine caN (by exact di (k:=1) (n:=1) (by decide) (by decide)) ?_;rintro _ g1 _ q1;obtain⟨v1,v1_l,v1_c,rfl,q1⟩:=q1.sl
    try simp(disch:=omega) only[go_sem,Nat.reduceBEq,reduceAdd]
    rw[←he,h0];exact q1
  · have e3:((dl:Int) == 0)=false:=by simp;omega
    refine Spec.go [] Tryz.func267 rfl rfl (by kernel_rfl) fun C _=>?_
    try simp(disch:=omega) only[go_sem,Nat.reduceBEq,reduceAdd,e3]
    rw[←he,my h0];exact hd.to
theorem EH {h0 h:PH} [Le h0 h] {v:Value} {x:Rat} {w:Nat} {u:Bool} (hx:Qr h0 v x) (bx:sz x≤2^30) (hw:w≤2^30):Spec mach 222 #[v,.int .i64 w,.bool u] h (fun v h'=>N16 h' v (odiv (x.num.natAbs*2^w) x.den u)) NP:=by
  have b1:=bG x
  have b2:=bB x
  have b3:=cu x.num.natAbs w
  have hd0:x.den≠0:=x.den_nz
  have kD:=fun {h} [Le h0 h]=>IJ (h:=h) hx
  obtain⟨na,nl,nc,da,dl,dc,e,rfl,hn,hd,he⟩:=hx.sl
  cases u with
  | true=>
    refine Spec.go [] Tryz.func222 rfl rfl (by kernel_rfl) fun C _=>?_
    try simp(disch:=omega) only[go_sem,Nat.reduceBEq,reduceAdd]
    refine caN (by exact gf (n:=w) hn (by omega)) ?_;rintro _ g1 _ q1;obtain⟨v1,v1_l,v1_c,rfl,q1⟩:=q1.sl
    try simp(disch:=omega) only[go_sem,Nat.reduceBEq,reduceAdd]
    refine caN (by exact kD) ?_;rintro _ g2 _ q2;obtain⟨v2,v2_l,v2_c,rfl,q2⟩:=q2.sl
    try simp(disch:=omega) only[go_sem,Nat.reduceBEq,reduceAdd]
    refine caN (by exact xg (q1.to (h':=g2)) q2 hd0 (by omega) (by omega)) ?_;rintro _ g3 _ q3;obtain⟨v3,v3_l,v3_c,rfl,q3⟩:=q3.sl
    try simp(disch:=omega) only[go_sem,Nat.reduceBEq,reduceAdd]
    exact q3
  | false=>
    refine Spec.go [] Tryz.func222 rfl rfl (by kernel_rfl) fun C _=>?_
    try simp(disch:=omega) only[go_sem,Nat.reduceBEq,reduceAdd]
    refine caN (by exact gf (n:=w) hn (by omega)) ?_;rintro _ g1 _ q1;obtain⟨v1,v1_l,v1_c,rfl,q1⟩:=q1.sl
    try simp(disch:=omega) only[go_sem,Nat.reduceBEq,reduceAdd]
    refine caN (by exact kD) ?_;rintro _ g2 _ q2;obtain⟨v2,v2_l,v2_c,rfl,q2⟩:=q2.sl
    try simp(disch:=omega) only[go_sem,Nat.reduceBEq,reduceAdd]
    refine caN (by exact rJ (q1.to (h':=g2)) q2 hd0 (by omega) (by omega)) ?_;rintro _ g3 _ q3;obtain⟨v3,v3_l,v3_c,rfl,q3⟩:=q3.sl
    try simp(disch:=omega) only[go_sem,Nat.reduceBEq,reduceAdd]
    exact q3
theorem DS (n w:Nat):sgn false n 1 / 2^w=sgn false n (2^w):=by
  have e1:(1:Rat)⁻¹=1:=by grind
  simp[sgn,Rat.mkRat_eq_div,Rat.natCast_pow,Rat.div_def,e1]
theorem sz_sgn1 (n:Nat):sz (sgn false n 1)≤bl n+1:=by
  have:=dg false n (d:=1) (by decide)
  have:=fI
  omega
theorem o9 {h0 h:PH} [Le h0 h] {v:Value} {n w:Nat} (hv:N16 h0 v n) (bn:bl n≤2^20) (hw:w≤2^20):Spec mach 208 #[v,.int .i64 w] h (fun v h'=>Qr h' v (sgn false n (2^w))) NP:=by
  have ew:IntKind.i64.wrap (0 - (w:Int))= -(w:Int):=by rw[wi64 (by omega) (by omega)];omega
  have b1:=sz_sgn1 n
  have kM:=fun {h1 h2:PH} {d:Value} [Le h0 h1] [Le h1 h2] (hd:N16 h1 d 1)=>Ai (h0:=h1) (h:=h2) (neg:=false) (hv.to (h':=h1)) hd (by omega)
  obtain⟨_,_,_,rfl,_⟩:=hv.sl
  refine Spec.go [] Tryz.func208 rfl rfl (by kernel_rfl) fun C _=>?_
  try simp(disch:=omega) only[go_sem,Nat.reduceBEq,reduceAdd]
  refine caN (by exact di (k:=1) (n:=1) (by decide) (by decide)) ?_;rintro _ g1 _ q1;obtain⟨v1,v1_l,v1_c,rfl,q1⟩:=q1.sl
  try simp(disch:=omega) only[go_sem,Nat.reduceBEq,reduceAdd]
  refine caN (by exact kM q1) ?_;rintro v2 g2 s2 q2;obtain⟨_,_,_,_,_,_,_,rfl,q2⟩:=q2.sa
  try simp(disch:=omega) only[go_sem,Nat.reduceBEq,reduceAdd,ew]
  refine caN (by exact gI (p:=w) q2 rfl (by omega) (by omega)) ?_;rintro v3 g3 s3 q3;rw[DS] at q3;obtain⟨_,_,_,_,_,_,_,rfl,q3⟩:=q3.sa
  try simp(disch:=omega) only[go_sem,Nat.reduceBEq,reduceAdd]
  exact q3
theorem jN {h:PH} {n:Nat} (hn:n < 2^20):Spec mach 37 #[.int .i64 1,.int .i64 n] h (fun v h'=>Qr h' v (1 / (n:Rat))) NP:=by
  have b1:sz ((1:Int):Rat)≤2^35:=by decide
  have b2:sz (((n:Int)):Rat)≤2^35:=by
    unfold sz
    have e1:bl ((((n:Int)):Rat).num.natAbs)≤64:=bl_le.2 (by simp;omega)
    have e2:bl ((((n:Int)):Rat).den)≤64:=bl_le.2 (by simp)
    omega
  have e:(((1:Int):Rat) / (((n:Int)):Rat))=1 / (n:Rat):=rfl
  refine Spec.go [] Tryz.func37 rfl rfl (by kernel_rfl) fun C _=>?_
  try simp(disch:=omega) only[go_sem,Nat.reduceBEq,reduceAdd]
  refine caN (by exact aF (n:=1) (by decide) (by decide)) ?_;rintro v1 g1 s1 q1;obtain⟨_,_,_,_,_,_,_,rfl,q1⟩:=q1.sa
  try simp(disch:=omega) only[go_sem,Nat.reduceBEq,reduceAdd]
  refine caN (by exact aF (n:=n) (by omega) (by omega)) ?_;rintro v2 g2 s2 q2;obtain⟨_,_,_,_,_,_,_,rfl,q2⟩:=q2.sa
  try simp(disch:=omega) only[go_sem,Nat.reduceBEq,reduceAdd]
  refine caN (by exact cU (q1.to (h':=g2)) q2 b1 b2) ?_;rintro v3 g3 s3 q3;rw[e] at q3;obtain⟨_,_,_,_,_,_,_,rfl,q3⟩:=q3.sa
  try simp(disch:=omega) only[go_sem,Nat.reduceBEq,reduceAdd]
  exact q3
theorem n9 {n:Nat} (hn:n≠0):(1 / (n:Rat)).num.natAbs=1∧(1 / (n:Rat)).den=n:=by
  obtain⟨h1,h2⟩:=rf (neg:=false) hn (Nat.gcd_one_left n)
  have e:1 / (n:Rat)=sgn false 1 n:=by simp[sgn,Rat.mkRat_eq_div]
  rw[e,h1,h2]
  exact⟨rfl,rfl⟩
theorem IQ {w t:Nat}:altN 79 t 1 81 w false=(2^w*81 - t*79) / (79*81):=by
  show(2^w*81 - 79*(t*1)) / (79*81)=_
  rw[Nat.mul_one,Nat.mul_comm 79 t]
theorem ER {w s:Nat}:altN 79 s 0 1 w true=cdiv (2^w) 79:=by
  show cdiv (2^w*1 - 79*(s*0)) (79*1)=_
  rw[Nat.mul_zero,Nat.mul_zero,Nat.mul_one,Nat.sub_zero,Nat.mul_one]
theorem alt_arc {w k x y:Nat} {u:Bool}:altN k x y (2^w) w u=odiv (2^w*2^w - x*y*k) (k*2^w) u:=by
  unfold altN
  rw[Nat.mul_comm k (x*y)]
theorem zm {h0 h:PH} [Le h0 h] {va vb:Value} {a b w:Nat} (hva:N16 h0 va a) (hvb:N16 h0 vb b) (la:a≤2^w) (lb:b≤2^w) (hw:20≤w) (hw':w≤1000):Spec mach 261 #[va,vb,.int .i64 w] h (fun v h'=>∃x m c y n d,v=.tuple #[.slice x m c,.slice y n d]∧N16 h' (.slice x m c) (arcL a b w)∧N16 h' (.slice y n d) (arcH a b w)) NP:=by
  have ba:bl a≤w+2:=bh (by omega)
  have bb:bl b≤w+2:=bh (by omega)
  obtain⟨bs,_⟩:=bl_sq (a:=a) la
  obtain⟨_,bt⟩:=bl_sq (a:=b) lb
  have hs:=mj la
  have ht:=jV lb
  have bA:∀{j c},j≤39→bl (arcV w (sqL a w) (sqH b w) c j)≤w+2:=fun hj=>GB hj
  have sA:∀{j},j < 39→_:=fun {j} hj=>sR (j:=j) hw hs ht hj
  have u1:=bC w
  have u2:bl 0≤2^30:=by decide
  have u3:bl 1≤2^30:=by decide
  have u4:bl 81≤2^30:=by decide
  have w0:=am w
  obtain⟨xa,ma,ca,rfl,hva⟩:=hva.sl
  obtain⟨xb,mb,cb,rfl,hvb⟩:=hvb.sl
  have w0:=Hid.mk w0
  have u3':=Hid.mk u3
  have u2':=Hid.mk u2
  have u4':=Hid.mk u4
  have h79:79*(sqH b w*1)≤2^w*81:=by omega
  have h79':79*(sqL a w*0)≤2^w*1:=by omega
  clear hs la lb
  have F:=Hid.mk (And.intro ba (And.intro bb (And.intro bs (And.intro bt (And.intro ht (And.intro u1 (And.intro u2 (And.intro u3 (And.intro u4 (And.intro h79 h79'))))))))));clear ba bb bs bt ht u1 u2 u3 u4 h79 h79'
  refine Spec.go [] Tryz.func261 rfl rfl (by kernel_rfl) fun C _=>?_
  try simp(disch:=omega) only[go_sem,Nat.reduceBEq,reduceAdd]
  refine caN (by exact nu (u:=false) hva hva (by have:=F.out;omega) (by have:=F.out;omega) (by have:=F.out;omega)) ?_;rintro _ h1 _ q1;obtain⟨v1,v1_l,v1_c,rfl,q1⟩:=q1.sl
  try simp(disch:=omega) only[go_sem,Nat.reduceBEq,reduceAdd]
  have q1:N16 h1 (.slice v1 v1_l v1_c) (sqL a w):=q1
  refine caN (by exact nu (u:=true) (hvb.to (h':=h1)) (hvb.to (h':=h1)) (by have:=F.out;omega) (by have:=F.out;omega) (by have:=F.out;omega)) ?_;rintro _ h2 _ q2;obtain⟨v2,v2_l,v2_c,rfl,q2⟩:=q2.sl
  try simp(disch:=omega) only[go_sem,Nat.reduceBEq,reduceAdd]
  have q2:N16 h2 (.slice v2 v2_l v2_c) (sqH b w):=q2
  have q1:=q1.to (h':=h2)
  refine caN (by exact di (k:=0) (n:=0) (by decide) (by decide)) ?_;rintro _ h3 _ q3;obtain⟨v3,v3_l,v3_c,rfl,q3⟩:=q3.sl
  try simp(disch:=omega) only[go_sem,Nat.reduceBEq,reduceAdd]
  refine caN (by exact di (k:=1) (n:=1) (by decide) (by decide)) ?_;rintro _ h4 _ q4;obtain⟨v4,v4_l,v4_c,rfl,q4⟩:=q4.sl
  try simp(disch:=omega) only[go_sem,Nat.reduceBEq,reduceAdd]
  refine caN (by exact di (k:=1) (n:=1) (by decide) (by decide)) ?_;rintro _ h5 _ q5;obtain⟨v5,v5_l,v5_c,rfl,q5⟩:=q5.sl
  try simp(disch:=omega) only[go_sem,Nat.reduceBEq,reduceAdd]
  refine caN (by exact di (k:=81) (n:=81) (by decide) (by decide)) ?_;rintro _ h6 _ q6;obtain⟨v6,v6_l,v6_c,rfl,q6⟩:=q6.sl
  try simp(disch:=omega) only[go_sem,Nat.reduceBEq,reduceAdd]
  refine lp [] (fun x':Value×Value×Value×Value×Nat=>⟨[(0,.v (.slice xa ma ca)),(1,.v (.slice xb mb cb)),(2,.v (.int .i64 w)),(8,.v (.slice v1 v1_l v1_c)),(9,.v (.slice v2 v2_l v2_c)),(10,.v x'.1),(11,.v x'.2.1),(12,.v x'.2.2.1),(13,.v x'.2.2.2.1),(14,.v (.int .i64 ((x'.2.2.2.2:Int) - 1)))],[]⟩) (fun x' h'=>Le h2 h'∧(x'.2.2.2.2=40∧N16 h' x'.1 0∧N16 h' x'.2.1 1∧N16 h' x'.2.2.1 1∧N16 h' x'.2.2.2.1 81∨x'.2.2.2.2≤39∧N16 h' x'.1 (arcV w (sqL a w) (sqH b w) false (39 - x'.2.2.2.2))∧N16 h' x'.2.1 (2^w)∧N16 h' x'.2.2.1 (arcV w (sqL a w) (sqH b w) true (39 - x'.2.2.2.2))∧N16 h' x'.2.2.2.1 (2^w))) (fun x'=>x'.2.2.2.2) (.slice v3 v3_l v3_c,.slice v4 v4_l v4_c,.slice v5 v5_l v5_c,.slice v6 v6_l v6_c,40) ?_ ⟨inferInstance,.inl ⟨rfl,q3.to,q4.to,q5.to,q6⟩⟩ (by kernel_rfl) ?_
  · try simp(disch:=omega) only[go_sem,Nat.reduceBEq,reduceAdd]
    all_goals rfl
  rintro⟨vl,vld,vu,vud,i⟩ g0 ⟨le0,hi⟩
  dsimp only at hi ⊢
  rcases hi with⟨rfl,hl,hld,hu,hud⟩ |⟨hi,hl,hld,hu,hud⟩
  · try simp(disch:=omega) only[go_sem,Nat.reduceBEq,reduceAdd]
    refine caN (by exact gQ (k:=79) (w:=w) (u:=false) (q2.to (h':=g0)) hu hud (by decide) (by decide) (by decide) (by have:=F.out;omega) (show bl (sqH b w)≤2^30 by have:=F.out;omega) u3'.out u4'.out (by have:=F.out;omega)) ?_;rintro _ g1 _ r1;obtain⟨w1,w1_l,w1_c,rfl,r1⟩:=r1.sl
    try simp(disch:=omega) only[go_sem,Nat.reduceBEq,reduceAdd]
    refine caN (by exact gQ (k:=79) (w:=w) (u:=true) (q1.to (h':=g1)) (hl.to (h':=g1)) (hld.to (h':=g1)) (by decide) (by decide) (by decide) (by have:=F.out;omega) (show bl (sqL a w)≤2^30 by have:=F.out;omega) u2'.out u3'.out (by have:=F.out;omega)) ?_;rintro _ g2 _ r2;obtain⟨w2,w2_l,w2_c,rfl,r2⟩:=r2.sl
    try simp(disch:=omega) only[go_sem,Nat.reduceBEq,reduceAdd]
    rw[IQ] at r1
    rw[ER] at r2
    try simp(disch:=omega) only[go_sem,Nat.reduceBEq,reduceAdd]
    refine caN (by exact jO (w:=w) (by have:=F.out;omega)) ?_;rintro _ g3 _ r3;obtain⟨w3,w3_l,w3_c,rfl,r3⟩:=r3.sl
    try simp(disch:=omega) only[go_sem,Nat.reduceBEq,reduceAdd]
    refine caN (by exact jO (w:=w) (by have:=F.out;omega)) ?_;rintro _ g4 _ r4;obtain⟨w4,w4_l,w4_c,rfl,r4⟩:=r4.sl
    try simp(disch:=omega) only[go_sem,Nat.reduceBEq,reduceAdd]
    dsimp only[lpE];refine⟨(_,_,_,_,39),?_,⟨Le.trn le0 inferInstance,.inr ⟨(show 39≤39 by decide),by show N16 _ _ (arcV _ _ _ _ (39 - 39));rw[Nat.sub_self,EQ];exact r1.to,r3.to,by show N16 _ _ (arcV _ _ _ _ (39 - 39));rw[Nat.sub_self,vR];exact r2.to,r4⟩⟩,(show 39 < 40 by decide)⟩
    try simp(disch:=omega) only[go_sem,Nat.reduceBEq,reduceAdd]
    all_goals rfl
  · cases i with
    | zero=>
      rw[Nat.sub_zero] at hl hu
      have b1:=bA (j:=39) (c:=false) (Nat.le_refl _)
      have b2:=bA (j:=39) (c:=true) (Nat.le_refl _)
      have le1:Le h0 g0:=Le.trn inferInstance le0
      obtain⟨_,_,_,rfl,hl⟩:=hl.sl
      obtain⟨_,_,_,rfl,hu⟩:=hu.sl
      have F:=Hid.mk (And.intro F.out (And.intro b1 b2));clear b1 b2
      try simp(disch:=omega) only[go_sem,Nat.reduceBEq,reduceAdd]
      refine caN (by exact nu (u:=false) (hva.to (h':=g0)) hl (by have:=F.out;omega) (show bl (arcV w (sqL a w) (sqH b w) false 39)≤2^30 by have:=F.out;omega) (by have:=F.out;omega)) ?_;rintro _ g1 _ r1;obtain⟨w1,w1_l,w1_c,rfl,r1⟩:=r1.sl
      try simp(disch:=omega) only[go_sem,Nat.reduceBEq,reduceAdd]
      refine caN (by exact nu (u:=true) (hvb.to (h':=g1)) (hu.to (h':=g1)) (by have:=F.out;omega) (show bl (arcV w (sqL a w) (sqH b w) true 39)≤2^30 by have:=F.out;omega) (by have:=F.out;omega)) ?_;rintro _ g2 _ r2;obtain⟨w2,w2_l,w2_c,rfl,r2⟩:=r2.sl
      try simp(disch:=omega) only[go_sem,Nat.reduceBEq,reduceAdd]
      exact⟨_,_,_,_,_,_,rfl,r1.to,r2⟩
    | succ i=>
      obtain⟨j,hj,ej⟩:∃j,j < 39∧39 - (i+1)=j:=⟨_,by have:=F.out;omega,rfl⟩
      have en:39 - i=j+1:=by have:=F.out;omega
      have eo:77 - 2*j=2*i+1:=by have:=F.out;omega
      rw[ej] at hl hu
      obtain⟨s1,s2⟩:=sA hj
      rw[eo] at s1 s2
      rw[Nat.mul_comm _ (2*i+1)] at s1 s2
      have b1:=bA (j:=j) (c:=false) (by have:=F.out;omega)
      have b2:=bA (j:=j) (c:=true) (by have:=F.out;omega)
      have s1:=Hid.mk s1
      have s2:=Hid.mk s2
      have eo:=Hid.mk eo
      have en:=Hid.mk en
      clear ej hj
      have F:=Hid.mk (And.intro F.out (And.intro b1 b2));clear b1 b2
      try simp(disch:=omega) only[go_sem,Nat.reduceBEq,reduceAdd]
      refine caN (by exact gQ (k:=2*i+1) (w:=w) (u:=false) (q2.to (h':=g0)) hu hud (by have:=F.out;omega) (by have:=F.out;omega) w0.out s1.out (show bl (sqH b w)≤2^30 by have:=F.out;omega) (by have:=F.out;omega) (by have:=F.out;omega) (by have:=F.out;omega)) ?_;rintro _ g1 _ r1;obtain⟨w1,w1_l,w1_c,rfl,r1⟩:=r1.sl
      try simp(disch:=omega) only[go_sem,Nat.reduceBEq,reduceAdd]
      refine caN (by exact gQ (k:=2*i+1) (w:=w) (u:=true) (q1.to (h':=g1)) (hl.to (h':=g1)) (hld.to (h':=g1)) (by have:=F.out;omega) (by have:=F.out;omega) w0.out s2.out (show bl (sqL a w)≤2^30 by have:=F.out;omega) (by have:=F.out;omega) (by have:=F.out;omega) (by have:=F.out;omega)) ?_;rintro _ g2 _ r2;obtain⟨w2,w2_l,w2_c,rfl,r2⟩:=r2.sl
      try simp(disch:=omega) only[go_sem,Nat.reduceBEq,reduceAdd]
      rw[alt_arc] at r1 r2
      try simp(disch:=omega) only[go_sem,Nat.reduceBEq,reduceAdd]
      refine caN (by exact jO (w:=w) (by have:=F.out;omega)) ?_;rintro _ g3 _ r3;obtain⟨w3,w3_l,w3_c,rfl,r3⟩:=r3.sl
      try simp(disch:=omega) only[go_sem,Nat.reduceBEq,reduceAdd]
      refine caN (by exact jO (w:=w) (by have:=F.out;omega)) ?_;rintro _ g4 _ r4;obtain⟨w4,w4_l,w4_c,rfl,r4⟩:=r4.sl
      try simp(disch:=omega) only[go_sem,Nat.reduceBEq,reduceAdd]
      dsimp only[lpE];refine⟨(.slice w1 w1_l w1_c,.slice w3 w3_l w3_c,.slice w2 w2_l w2_c,.slice w4 w4_l w4_c,i),?_,⟨Le.trn le0 inferInstance,.inr ⟨(show i≤39 by have:=F.out;omega),?_,r3.to,?_,r4⟩⟩,(show i < i+1 by have:=F.out;omega)⟩
      · try simp(disch:=omega) only[go_sem,Nat.reduceBEq,reduceAdd]
        all_goals rfl
      · show N16 _ _ (arcV _ _ _ false (39 - i))
        rw[en.out,Az,eo.out]
        exact r1.to
      · show N16 _ _ (arcV _ _ _ true (39 - i))
        rw[en.out,vT,eo.out]
        exact r2.to
theorem CI {h:PH} {w:Nat} (hw:32≤w) (hw':w≤192):Spec mach 207 #[.int .i64 w] h (fun v h'=>∃x m c y n d,v=.tuple #[.slice x m c,.slice y n d]∧N16 h' (.slice x m c) (piL w)∧N16 h' (.slice y n d) (piH w)) NP:=by
  obtain⟨z1,z2,_,_⟩:=FG hw hw'
  obtain⟨b1,b2⟩:=uy (n:=5) (w:=w) (by decide)
  obtain⟨b3,b4⟩:=uy (n:=239) (w:=w) (by decide)
  have b5:=aG 16 (fifL 5 w)
  have b6:=aG 16 (fifH 5 w)
  have u1:bl 16=5:=by decide
  have u2:bl 4=3:=by decide
  obtain⟨l1,l2⟩:=pV 5 (w:=w) (by decide)
  obtain⟨l3,l4⟩:=pV 239 (w:=w) (by decide)
  have s5:sz (1 / ((5:Nat):Rat))≤2^30:=by unfold sz;rw[(n9 (n:=5) (by decide)).1,(n9 (n:=5) (by decide)).2];decide
  have s9:sz (1 / ((239:Nat):Rat))≤2^30:=by unfold sz;rw[(n9 (n:=239) (by decide)).1,(n9 (n:=239) (by decide)).2];decide
  have G:∀{n:Nat} {u:Bool} {h0 h:PH} {v:Value} [Le h0 h],n≠0→sz (1 / (n:Rat))≤2^30→Qr h0 v (1 / (n:Rat))→Spec mach 222 #[v,.int .i64 w,.bool u] h (fun v h'=>N16 h' v (odiv (2^w) n u)) NP:=by
    intro n u h0 h v _ hn hs hq
    have:=EH (h:=h) (w:=w) (u:=u) hq hs (by omega)
    rw[(n9 hn).1,(n9 hn).2,Nat.one_mul] at this
    exact this
  have e1:16*fifL 5 w - 4*fifH 239 w=piL w:=by unfold piL;omega
  have e2:16*fifH 5 w - 4*fifL 239 w=piH w:=by unfold piH;omega
  have e1:=Hid.mk e1
  have e2:=Hid.mk e2
  have s5:=Hid.mk s5
  have s9:=Hid.mk s9
  have l1:=Hid.mk l1
  have l2:=Hid.mk l2
  have l3:=Hid.mk l3
  have l4:=Hid.mk l4
  have z1':4*fifH 239 w≤16*fifL 5 w:=by omega
  have z2':4*fifL 239 w≤16*fifH 5 w:=by omega
  clear z1 z2
  have F:=Hid.mk (And.intro z1' (And.intro z2' (And.intro b1 (And.intro b2 (And.intro b3 (And.intro b4 (And.intro b5 (And.intro b6 (And.intro u1 u2)))))))));clear z1' z2' b1 b2 b3 b4 b5 b6 u1 u2
  refine Spec.go [] Tryz.func207 rfl rfl (by kernel_rfl) fun C _=>?_
  try simp(disch:=omega) only[go_sem,Nat.reduceBEq,reduceAdd]
  refine caN (by exact jN (n:=5) (by decide)) ?_;rintro v1 h1 s1 q1;obtain⟨_,_,_,_,_,_,_,rfl,q1⟩:=q1.sa
  try simp(disch:=omega) only[go_sem,Nat.reduceBEq,reduceAdd]
  refine caN (by exact G (u:=false) (by decide) s5.out q1) ?_;rintro _ h2 _ q2;obtain⟨v2,v2_l,v2_c,rfl,q2⟩:=q2.sl
  try simp(disch:=omega) only[go_sem,Nat.reduceBEq,reduceAdd]
  refine caN (by exact jN (n:=5) (by decide)) ?_;rintro v3 h3 s3 q3;obtain⟨_,_,_,_,_,_,_,rfl,q3⟩:=q3.sa
  try simp(disch:=omega) only[go_sem,Nat.reduceBEq,reduceAdd]
  refine caN (by exact G (u:=true) (by decide) s5.out q3) ?_;rintro _ h4 _ q4;obtain⟨v4,v4_l,v4_c,rfl,q4⟩:=q4.sl
  try simp(disch:=omega) only[go_sem,Nat.reduceBEq,reduceAdd]
  refine caN (by exact zm (a:=2^w / 5) (b:=cdiv (2^w) 5) (w:=w) (q2.to (h':=h4)) q4 l1.out l2.out (by have:=F.out;omega) (by have:=F.out;omega)) ?_;rintro v5 h5 s5' ⟨_,_,_,_,_,_,rfl,q5,q6⟩
  try simp(disch:=omega) only[go_sem,Nat.reduceBEq,reduceAdd]
  refine caN (by exact jN (n:=239) (by decide)) ?_;rintro v6 h6 s6 q7;obtain⟨_,_,_,_,_,_,_,rfl,q7⟩:=q7.sa
  try simp(disch:=omega) only[go_sem,Nat.reduceBEq,reduceAdd]
  refine caN (by exact G (u:=false) (by decide) s9.out q7) ?_;rintro _ h7 _ q8;obtain⟨_,_,_,rfl,q8⟩:=q8.sl
  try simp(disch:=omega) only[go_sem,Nat.reduceBEq,reduceAdd]
  refine caN (by exact jN (n:=239) (by decide)) ?_;rintro v8 h8 s8 q9;obtain⟨_,_,_,_,_,_,_,rfl,q9⟩:=q9.sa
  try simp(disch:=omega) only[go_sem,Nat.reduceBEq,reduceAdd]
  refine caN (by exact G (u:=true) (by decide) s9.out q9) ?_;rintro _ h9 _ q10;obtain⟨_,_,_,rfl,q10⟩:=q10.sl
  try simp(disch:=omega) only[go_sem,Nat.reduceBEq,reduceAdd]
  refine caN (by exact zm (a:=2^w / 239) (b:=cdiv (2^w) 239) (w:=w) (q8.to (h':=h9)) q10 l3.out l4.out (by have:=F.out;omega) (by have:=F.out;omega)) ?_;rintro v10 h10 s10 ⟨_,_,_,_,_,_,rfl,q11,q12⟩
  try simp(disch:=omega) only[go_sem,Nat.reduceBEq,reduceAdd]
  have q5:N16 h5 _ (fifL 5 w):=q5
  have q6:N16 h5 _ (fifH 5 w):=q6
  have q11:N16 h10 _ (fifL 239 w):=q11
  have q12:N16 h10 _ (fifH 239 w):=q12
  try simp(disch:=omega) only[go_sem,Nat.reduceBEq,reduceAdd]
  refine caN (by exact di (k:=16) (n:=16) (by decide) (by decide)) ?_;rintro _ h11 _ q13;obtain⟨_,_,_,rfl,q13⟩:=q13.sl
  try simp(disch:=omega) only[go_sem,Nat.reduceBEq,reduceAdd]
  refine caN (by exact aV q13 (q5.to (h':=h11)) (by have:=F.out;omega) (by have:=F.out;omega)) ?_;rintro _ h12 _ q14;obtain⟨v12,_,_,rfl,q14⟩:=q14.sl
  try simp(disch:=omega) only[go_sem,Nat.reduceBEq,reduceAdd]
  refine caN (by exact di (k:=4) (n:=4) (by decide) (by decide)) ?_;rintro _ h13 _ q15;obtain⟨_,_,_,rfl,q15⟩:=q15.sl
  try simp(disch:=omega) only[go_sem,Nat.reduceBEq,reduceAdd]
  refine caN (by exact aV q15 (q12.to (h':=h13)) (by have:=F.out;omega) (by have:=F.out;omega)) ?_;rintro _ h14 _ q16;obtain⟨v14,_,_,rfl,q16⟩:=q16.sl
  try simp(disch:=omega) only[go_sem,Nat.reduceBEq,reduceAdd]
  refine caN (by exact lj (q14.to (h':=h14)) q16 (by have:=F.out;omega) (by have:=F.out;omega)) ?_;rintro _ h15 _ q17;obtain⟨v15,_,_,rfl,q17⟩:=q17.sl
  try simp(disch:=omega) only[go_sem,Nat.reduceBEq,reduceAdd]
  refine caN (by exact di (k:=16) (n:=16) (by decide) (by decide)) ?_;rintro _ h16 _ q18;obtain⟨_,_,_,rfl,q18⟩:=q18.sl
  try simp(disch:=omega) only[go_sem,Nat.reduceBEq,reduceAdd]
  refine caN (by exact aV q18 (q6.to (h':=h16)) (by have:=F.out;omega) (by have:=F.out;omega)) ?_;rintro _ h17 _ q19;obtain⟨v17,_,_,rfl,q19⟩:=q19.sl
  try simp(disch:=omega) only[go_sem,Nat.reduceBEq,reduceAdd]
  refine caN (by exact di (k:=4) (n:=4) (by decide) (by decide)) ?_;rintro _ h18 _ q20;obtain⟨_,_,_,rfl,q20⟩:=q20.sl
  try simp(disch:=omega) only[go_sem,Nat.reduceBEq,reduceAdd]
  refine caN (by exact aV q20 (q11.to (h':=h18)) (by have:=F.out;omega) (by have:=F.out;omega)) ?_;rintro _ h19 _ q21;obtain⟨v19,_,_,rfl,q21⟩:=q21.sl
  try simp(disch:=omega) only[go_sem,Nat.reduceBEq,reduceAdd]
  refine caN (by exact lj (q19.to (h':=h19)) q21 (by have:=F.out;omega) (by have:=F.out;omega)) ?_;rintro _ h20 _ q22;obtain⟨v20,_,_,rfl,q22⟩:=q22.sl
  try simp(disch:=omega) only[go_sem,Nat.reduceBEq,reduceAdd]
  rw[e1.out] at q17
  rw[e2.out] at q22
  exact⟨_,_,_,_,_,_,rfl,q17.to,q22⟩
def eLo (w y:Nat):Nat→Nat
  |0=>2^w
  |k+1=>2^w+y*eLo w y k / 2^(w+8) / (40 - k)
def eHi (w y:Nat):Nat→Nat
  |0=>2^w*2^1
  |k+1=>2^w+cdiv (cdiv (y*eHi w y k) (2^(w+8))) (40 - k)
def qLo (w a:Nat):Nat→Nat
  |0=>a
  |k+1=>qLo w a k*qLo w a k / 2^w
def qHi (w a:Nat):Nat→Nat
  |0=>a
  |k+1=>cdiv (qHi w a k*qHi w a k) (2^w)
theorem eLo_0 (w y:Nat):eLo w y 0=2^w:=rfl
theorem eLo_s (w y k:Nat):eLo w y (k+1)=2^w+y*eLo w y k / 2^(w+8) / (40 - k):=rfl
theorem eHi_0 (w y:Nat):eHi w y 0=2^w*2^1:=rfl
theorem eHi_s (w y k:Nat):eHi w y (k+1)=2^w+cdiv (cdiv (y*eHi w y k) (2^(w+8))) (40 - k):=rfl
theorem qLo_0 (w a:Nat):qLo w a 0=a:=rfl
theorem qLo_s (w a k:Nat):qLo w a (k+1)=qLo w a k*qLo w a k / 2^w:=rfl
theorem qHi_0 (w a:Nat):qHi w a 0=a:=rfl
theorem qHi_s (w a k:Nat):qHi w a (k+1)=cdiv (qHi w a k*qHi w a k) (2^w):=rfl
theorem bl_eLo (w y k:Nat):bl (eLo w y k)≤w+2+k*(bl y+3):=by
  induction k with
  |zero=>have:=bC w;show bl (2^w)≤_;omega
  | succ k ih=>
    have h1:=cY (2^w) (y*eLo w y k / 2^(w+8) / (40 - k))
    have h2:=aZ (y*eLo w y k / 2^(w+8)) (40 - k)
    have h3:=aZ (y*eLo w y k) (2^(w+8))
    have h4:=aG y (eLo w y k)
    have h5:=bC w
    rw[Nat.succ_mul]
    show bl (2^w+y*eLo w y k / 2^(w+8) / (40 - k))≤_
    omega
theorem bl_eHi {w y k:Nat} (hk:k≤40):bl (eHi w y k)≤w+3+k*(bl y+4):=by
  induction k with
  |zero=>have h1:=bC w;have h2:=cu (2^w) 1;show bl (2^w*2^1)≤_;omega
  | succ k ih=>
    have ih:=ih (by omega)
    have h1:=cY (2^w) (cdiv (cdiv (y*eHi w y k) (2^(w+8))) (40 - k))
    have h2:=fy (cdiv (y*eHi w y k) (2^(w+8))) (d:=40 - k) (by omega)
    have h3:=fy (y*eHi w y k) (am (w+8))
    have h4:=aG y (eHi w y k)
    have h5:=bC w
    rw[Nat.succ_mul]
    show bl (2^w+cdiv (cdiv (y*eHi w y k) (2^(w+8))) (40 - k))≤_
    omega
theorem bl_qLo (w a k:Nat):bl (qLo w a k)≤2^k*(bl a+1):=by
  induction k with
  |zero=>show bl a≤_;omega
  | succ k ih=>
    have h1:=aZ (qLo w a k*qLo w a k) (2^w)
    have h2:=aG (qLo w a k) (qLo w a k)
    rw[Nat.pow_succ]
    show bl (qLo w a k*qLo w a k / 2^w)≤_
    have:2^k*2*(bl a+1)=2*(2^k*(bl a+1)):=by rw[Nat.mul_comm (2^k) 2,Nat.mul_assoc]
    omega
theorem bl_qHi (w a k:Nat):bl (qHi w a k)+1≤2^k*(bl a+1):=by
  induction k with
  |zero=>show bl a+1≤_;omega
  | succ k ih=>
    have h1:=fy (qHi w a k*qHi w a k) (am w)
    have h2:=aG (qHi w a k) (qHi w a k)
    rw[Nat.pow_succ]
    show bl (cdiv (qHi w a k*qHi w a k) (2^w))+1≤_
    have:2^k*2*(bl a+1)=2*(2^k*(bl a+1)):=by rw[Nat.mul_comm (2^k) 2,Nat.mul_assoc]
    omega
theorem dX {h0 h:PH} [Le h0 h] {v:Value} {x:Rat} (hx:Cn h0 v x):Spec mach 191 #[v] h (fun v _=>v=.bool (decide (1024 < sz x))) NP:=by
  have kW:=fun {h} [Le h0 h]=>jg (h:=h) hx
  obtain⟨na,nl,nc,da,dl,dc,rfl,hn,hd,e1,e2⟩:=hx.parts
  have kO:=fun {h} [Le h0 h]=>rH (h:=h) hn
  have e3:decide ((if (bl x.den:Int) > (bl x.num.natAbs:Int) then (bl x.den:Int) else (bl x.num.natAbs:Int)) > 1024)=decide (1024 < sz x):=by
    unfold sz
    split<;>congr 1<;>simp only[eq_iff_iff]<;>omega
  refine Spec.go [(1,.o [0,1,4,2,3,5,6,7,8,9])] Tryz.func191 rfl rfl (by kernel_rfl) fun C _=>?_
  try simp(disch:=omega) only[go_sem,Nat.reduceBEq,reduceAdd]
  refine caN (by exact kO) ?_;rintro _ g1 _ q1;obtain⟨_,_,_,rfl,q1⟩:=q1.sl
  try simp(disch:=omega) only[go_sem,Nat.reduceBEq,reduceAdd]
  refine caN (by exact mG q1) ?_;rintro v2 h2 s2 rfl
  try simp(disch:=omega) only[go_sem,Nat.reduceBEq,reduceAdd]
  refine caN (by exact kW) ?_;rintro _ g3 _ q3;obtain⟨v3,_,_,rfl,q3⟩:=q3.sl
  try simp(disch:=omega) only[go_sem,Nat.reduceBEq,reduceAdd]
  refine caN (by exact mG q3) ?_;rintro v4 h4 s4 rfl
  try simp(disch:=omega) only[go_sem,Nat.reduceBEq,reduceAdd,e3]
theorem fY {h0 h:PH} [Le h0 h] {v:Value} {x:Rat} {n:Nat} (hx:Cn h0 v x) (bx:sz x≤2^20) (hn:n < 2^64):Spec mach 102 #[v,.int .u64 n] h (fun v _=>v=.bool (decide (x.den*n < x.num.natAbs))) NP:=by
  have b2:=bB x
  have b3:bl n≤64:=bl_le.2 hn
  have kW:=fun {h} [Le h0 h]=>jg (h:=h) hx
  obtain⟨na,nl,nc,da,dl,dc,rfl,hn',hd,e1,e2⟩:=hx.parts
  have kO:=fun {h} [Le h0 h]=>rH (h:=h) hn'
  have e3:decide (cmp3 x.num.natAbs (x.den*n) > 0)=decide (x.den*n < x.num.natAbs):=by unfold cmp3;grind
  refine Spec.go [(1,.o [0,1,3,5,2,4,6,7,8,9,10])] Tryz.func102 rfl rfl (by kernel_rfl) fun C _=>?_
  try simp(disch:=omega) only[go_sem,Nat.reduceBEq,reduceAdd]
  refine caN (by exact kO) ?_;rintro _ g1 _ q1;obtain⟨_,_,_,rfl,q1⟩:=q1.sl
  try simp(disch:=omega) only[go_sem,Nat.reduceBEq,reduceAdd]
  refine caN (by exact kW) ?_;rintro _ g2 _ q2;obtain⟨v2,_,_,rfl,q2⟩:=q2.sl
  try simp(disch:=omega) only[go_sem,Nat.reduceBEq,reduceAdd]
  refine caN (by exact aw (n:=n) hn) ?_;rintro _ g3 _ q3;obtain⟨v3,_,_,rfl,q3⟩:=q3.sl
  try simp(disch:=omega) only[go_sem,Nat.reduceBEq,reduceAdd]
  refine caN (by exact aI (q2.to (h':=g3)) q3 (by omega) (by omega)) ?_;rintro _ g4 _ q4;obtain⟨v4,_,_,rfl,q4⟩:=q4.sl
  try simp(disch:=omega) only[go_sem,Nat.reduceBEq,reduceAdd]
  refine caN (by exact fO (q1.to (h':=g4)) q4) ?_;rintro v5 h5 s5 rfl
  try simp(disch:=omega) only[go_sem,Nat.reduceBEq,reduceAdd,e3]
end Go.Q
