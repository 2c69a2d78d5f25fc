/-
  Contracts of package number: canonical values, small integers; of package word: lowest digits. Conditions: the values are numbers.
  Contracts of package elem: units, quotients rounded up, numbers of a grid, brackets. Conditions: the values are natural numbers (N32) and numbers (Cn) of the sizes named.
  Contracts of package elem: what is known of an argument; domains and exact values. Conditions: the values are numbers, raw (Rv) or canonical (Cn).
  The bracket of exp at 1 with the precision 3, and the statements' check of it (sane). Conditions: none.
  The series of the arctangent on a grid; pi. Plain. Conditions: the numbers are at most 1 of the grid; the precisions are at most 200.
  The bounds of the exponential function on a grid. Plain. Conditions: the argument's absolute value is at most 64.
  What exp returns of a number other than 0. Conditions: the number has at most 1024 binary digits, its absolute value is at most 64; the precision is at most 128.
-/
import Derived.Test.YtacebncjhpdacaaGreatDoorK8c97aaPkF
import Derived.Test.YtacebncjhpdacaaGreatDoorKfdb860PkL
import Derived.Test.YtacebncjhpdacaaGreatDoorK1d945fPkH
set_option linter.unusedVariables false
set_option linter.unusedSimpArgs false
namespace Go.Q
open Go.Proofs
set_option maxRecDepth 100000
set_option maxHeartbeats 8000000
theorem Cn.nul (h:PH):Cn h (.agg #[.bool false,.slice none 0 0,.slice none 0 0]) 0:=⟨.slice none 0 0,.slice none 0 0,by simp,by simpa using N32.zero h,by simpa using N32.zero h⟩
theorem NumOne_spec {h0 h:PH} [Le h0 h] {v:Value} {x z:Rat} {g:FuncId} (hx:Rv h0 v x) (hg:∀{h0 h:PH} {a:Value} [Le h0 h],Fr h0 a x→Spec mach g #[a] h (fun v h'=>Fr h' v z) NP):Spec mach 112 #[v,.func (.func g) #[] #[]] h (fun r h'=>Nc h' r z) NP:=by
  have kX:=fun {h} [Le h0 h]=>Read_rv (h:=h) hx
  obtain⟨_,_,_,_,_,_,_,rfl,_⟩:=hx.sa
  refine Spec.go [] Tryz.func112 rfl rfl (by kernel_rfl) fun C _=>?_
  simp(disch:=omega) only[go_sem,Nat.reduceBEq,Nat.reduceAdd]
  refine caN (by exact kX) ?_;rintro v1 h1 s1 ⟨f,rfl,hf⟩;obtain⟨_,_,_,_,_,_,_,rfl,hf⟩:=hf.sa
  simp(disch:=omega) only[go_sem,Nat.reduceBEq,Nat.reduceAdd]
  refine caN (by exact hg hf) ?_;rintro v3 h3 s3 hz;obtain⟨_,_,_,_,_,_,_,rfl,hz⟩:=hz.sa
  simp(disch:=omega) only[go_sem,Nat.reduceBEq,Nat.reduceAdd]
  refine caN (by exact Give_nc hz) ?_;rintro v4 h4 s4 q4;obtain⟨_,_,_,_,_,_,_,_,rfl,w4⟩:=q4
  simp(disch:=omega) only[go_sem,Nat.reduceBEq,Nat.reduceAdd]
  exact Nc.mk w4
theorem NumOne_no {h0 h:PH} [Le h0 h] {v:Value} {neg:Bool} {n d:Nat} {g:FuncId} (hv:Rw h0 v neg n d) (hl:lg neg n d):Spec mach 112 #[v,.func (.func g) #[] #[]] h (fun r _=>r=.tuple #[.agg #[.bool false,.slice none 0 0,.slice none 0 0],.int .i64 1]) NP:=by
  have kX:=fun {h} [Le h0 h]=>Read_no (h:=h) hv hl
  obtain⟨_,_,_,_,_,_,_,rfl,_⟩:=hv.sa
  refine Spec.go [] Tryz.func112 rfl rfl (by kernel_rfl) fun C _=>?_
  simp(disch:=omega) only[go_sem,Nat.reduceBEq,Nat.reduceAdd]
  refine caN (by exact kX) ?_;rintro v1 h1 s1 ⟨_,_,_,_,_,_,_,rfl⟩
  simp(disch:=omega) only[go_sem,Nat.reduceBEq,Nat.reduceAdd]
  all_goals omega
theorem Canon1_spec {h0 h:PH} [Le h0 h] {v:Value} {x:Rat} (hx:Fr h0 v x):Spec mach 113 #[v] h (fun v h'=>Fr h' v x) NP:=by
  have hx0:=hx
  obtain⟨_,_,_,_,_,_,_,rfl,hx1⟩:=hx.sa
  refine Spec.go [] Tryz.func113 rfl rfl (by kernel_rfl) fun C _=>?_
  simp(disch:=omega) only[go_sem,Nat.reduceBEq,Nat.reduceAdd]
  exact hx1.to
theorem NumCanon {h0 h:PH} [Le h0 h] {v:Value} {q:Rat} (hx:Rv h0 v q):Spec mach 78 #[v] h (fun r h'=>∃b na nl nc da dl dc,r=.tuple #[.agg #[.bool b,.slice na nl nc,.slice da dl dc],.int .i64 0]∧Cn h' (.agg #[.bool b,.slice na nl nc,.slice da dl dc]) q) NP:=by
  have kX:=fun {h} [Le h0 h]=>Read_rv (h:=h) hx
  have hs:=hx.sz
  have kO:∀{h:PH} [Le h0 h],Spec mach 112 #[v,.func (.func 113) #[] #[]] h (fun r h'=>∃b na nl nc da dl dc,r=.tuple #[.agg #[.bool b,.slice na nl nc,.slice da dl dc],.int .i64 0]∧Cn h' (.agg #[.bool b,.slice na nl nc,.slice da dl dc]) q) NP:=by
    intro h _
    obtain⟨_,_,_,_,_,_,_,rfl,_⟩:=hx.sa
    refine Spec.go [] Tryz.func112 rfl rfl (by kernel_rfl) fun C _=>?_
    simp(disch:=omega) only[go_sem,Nat.reduceBEq,Nat.reduceAdd]
    refine caN (by exact kX) ?_;rintro v1 h1 s1 ⟨f,rfl,hf⟩;obtain⟨_,_,_,_,_,_,_,rfl,hf⟩:=hf.sa
    simp(disch:=omega) only[go_sem,Nat.reduceBEq,Nat.reduceAdd]
    refine caN (by exact Canon1_spec hf) ?_;rintro v3 h3 s3 hz;obtain⟨_,_,_,_,_,_,_,rfl,hz⟩:=hz.sa
    simp(disch:=omega) only[go_sem,Nat.reduceBEq,Nat.reduceAdd]
    refine caN (by exact Give_ok hz hs) ?_;rintro v4 h4 s4 ⟨u,rfl,c⟩;obtain⟨_,_,_,_,_,_,_,rfl,c⟩:=c.sa
    simp(disch:=omega) only[go_sem,Nat.reduceBEq,Nat.reduceAdd]
    exact⟨_,_,_,_,_,_,_,rfl,c⟩
  obtain⟨_,_,_,_,_,_,_,rfl,_⟩:=hx.sa
  refine Spec.go [] Tryz.func78 rfl rfl (by kernel_rfl) fun C _=>?_
  simp(disch:=omega) only[go_sem,Nat.reduceBEq,Nat.reduceAdd]
  refine caN (by exact kO) ?_;rintro v1 h1 s1 ⟨_,_,_,_,_,_,_,rfl,c⟩
  simp(disch:=omega) only[go_sem,Nat.reduceBEq,Nat.reduceAdd]
  exact⟨_,_,_,_,_,_,_,rfl,c⟩
theorem NumCanon_no {h0 h:PH} [Le h0 h] {v:Value} {neg:Bool} {n d:Nat} (hv:Rw h0 v neg n d) (hl:lg neg n d):Spec mach 78 #[v] h (fun r _=>r=.tuple #[.agg #[.bool false,.slice none 0 0,.slice none 0 0],.int .i64 1]) NP:=by
  have kX:=fun {h} [Le h0 h]=>NumOne_no (h:=h) (g:=113) hv hl
  obtain⟨_,_,_,_,_,_,_,rfl,_⟩:=hv.sa
  refine Spec.go [] Tryz.func78 rfl rfl (by kernel_rfl) fun C _=>?_
  simp(disch:=omega) only[go_sem,Nat.reduceBEq,Nat.reduceAdd]
  refine caN (by exact kX) ?_;rintro v1 h1 s1 rfl
  simp(disch:=omega) only[go_sem,Nat.reduceBEq,Nat.reduceAdd]
theorem FromInt_spec {h:PH} {n:Int} (h1: -4611686018427387904≤n) (h2:n≤4611686018427387904):Spec mach 106 #[.int .i64 n] h (fun v h'=>Cn h' v (n:Rat)) NP:=by
  have hs:sz (n:Rat)≤2048:=by
    unfold sz
    have e1:bl ((n:Rat).num.natAbs)≤64:=bl_le.2 (by simp;omega)
    have e2:bl ((n:Rat).den)≤64:=bl_le.2 (by simp)
    omega
  refine Spec.go [] Tryz.func106 rfl rfl (by kernel_rfl) fun C _=>?_
  simp(disch:=omega) only[go_sem,Nat.reduceBEq,Nat.reduceAdd]
  refine caN (by exact Int_spec (by omega) (by omega)) ?_;rintro v1 h1 s1 q1;obtain⟨_,_,_,_,_,_,_,rfl,q1⟩:=q1.sa
  simp(disch:=omega) only[go_sem,Nat.reduceBEq,Nat.reduceAdd]
  refine caN (by exact Give_ok q1 hs) ?_;rintro v4 h4 s4 ⟨u,rfl,c⟩;obtain⟨_,_,_,_,_,_,_,rfl,c⟩:=c.sa
  simp(disch:=omega) only[go_sem,Nat.reduceBEq,Nat.reduceAdd]
  exact c
theorem Low_spec {h0 h:PH} [Le h0 h] {v:Value} {m n:Nat} (hv:N32 h0 v m) (hn:n≤2^40):Spec mach 90 #[v,.int .i64 n] h (fun r _=>r=.bool (decide (m % 2^n≠0))) NP:=by
  have kT:=fun {h} [Le h0 h]=>Twos_spec (h:=h) hv
  have e1 :decide (m % 2^n≠0)=(decide (m≠0) && decide (tw m < n)):=by
    by_cases hm:m=0
    · subst hm;simp
    · obtain⟨t,ht⟩:=tw_spec m hm
      by_cases hl:tw m < n
      · have:m % 2^n≠0:=by
          intro e
          have hd:=Nat.dvd_of_mod_eq_zero e
          have h2:2^(tw m+1)∣m:=Nat.dvd_trans (Nat.pow_dvd_pow 2 hl) hd
          have h3:=tw_odd hm rfl
          obtain⟨c,hc⟩:=h2
          have e2:m / 2^tw m=2*c:=Nat.div_eq_of_eq_mul_right (Nat.pow_pos (by decide)) (by rw[←Nat.mul_assoc,←Nat.pow_succ];exact hc)
          rw[e2] at h3
          omega
        simp[this,hm,hl]
      · have:m % 2^n=0:=Nat.mod_eq_zero_of_dvd (Nat.dvd_trans (Nat.pow_dvd_pow 2 (by omega)) (tw_dvd m))
        simp[this,hl]
  rw[e1]
  obtain⟨a,c,xs,rfl,ha,hx,rfl⟩:=hv.out
  have hl0:=W_len0 (B:=4294967296) (by decide) (n:=val 4294967296 xs)
  rw[hx] at hl0
  by_cases hm:val 4294967296 xs=0
  · have e2:decide ((xs.length:Int) > 0)=false:=decide_eq_false (by omega)
    rw[show(decide (val 4294967296 xs≠0) && decide (tw (val 4294967296 xs) < n))=false by simp[hm]]
    refine Spec.go [] Tryz.func90 rfl rfl (by kernel_rfl) fun C _=>?_
    simp(disch:=omega) only[go_sem,Nat.reduceBEq,Nat.reduceAdd,e2]
  · have e2:decide ((xs.length:Int) > 0)=true:=decide_eq_true (by omega)
    rw[show(decide (val 4294967296 xs≠0) && decide (tw (val 4294967296 xs) < n))=decide ((tw (val 4294967296 xs):Int) < (n:Int)) by simp[hm]]
    refine Spec.go [] Tryz.func90 rfl rfl (by kernel_rfl) fun C _=>?_
    simp(disch:=omega) only[go_sem,Nat.reduceBEq,Nat.reduceAdd,e2]
    refine caN (by exact kT) ?_;rintro v1 h1 s1 rfl
    simp(disch:=omega) only[go_sem,Nat.reduceBEq,Nat.reduceAdd]
end Go.Q
namespace Go.Q
open Go.Proofs
set_option maxRecDepth 100000
set_option maxHeartbeats 8000000
def cdiv (a d:Nat):Nat:=(a+(d - 1)) / d
theorem cdiv_0 {a d:Nat} (hd:d≠0) (h:a % d=0):cdiv a d=a / d:=by
  obtain⟨q,rfl⟩:=Nat.dvd_of_mod_eq_zero h
  unfold cdiv
  rw[Nat.mul_div_cancel_left _ (Nat.pos_of_ne_zero hd),Nat.mul_add_div (Nat.pos_of_ne_zero hd),Nat.div_eq_of_lt (by omega),Nat.add_zero]
theorem cdiv_1 {a d:Nat} (hd:d≠0) (h:a % d≠0):cdiv a d=a / d+1:=by
  have e:=Nat.div_add_mod a d
  have l:=Nat.mod_lt a (Nat.pos_of_ne_zero hd)
  unfold cdiv
  generalize a / d=q at*
  generalize a % d=r at*
  subst e
  rw[Nat.add_assoc,Nat.mul_add_div (Nat.pos_of_ne_zero hd),show r+(d - 1)=d+(r - 1) by omega,Nat.add_div_left _ (Nat.pos_of_ne_zero hd),Nat.div_eq_of_lt (by omega)]
theorem pow2_ne (n:Nat):2^n≠0:=Nat.ne_of_gt (Nat.pow_pos (by decide))
theorem cdiv_le {a d:Nat} (hd:d≠0):cdiv a d≤a / d+1:=by
  by_cases h:a % d=0
  · rw[cdiv_0 hd h];omega
  · rw[cdiv_1 hd h];omega
theorem bl_cdiv (a:Nat) {d:Nat} (hd:d≠0):bl (cdiv a d)≤bl a+1:=by
  have h1:=bl_add (a / d) 1
  have h2:=bl_div_le a d
  have h3:=bl_mono (cdiv_le (a:=a) hd)
  by_cases h0:a=0
  · subst h0
    rw[cdiv_0 hd (Nat.zero_mod d)]
    omega
  have h4:=(bl_pos h0).1
  have:=bl_one
  omega
theorem Unit_spec {h:PH} {w:Nat} (hw:w≤2^30):Spec mach 53 #[.int .i64 w] h (fun v h'=>N32 h' v (2^w)) NP:=by
  have e:=Nat.one_mul (2^w)
  refine Spec.go [] Tryz.func53 rfl rfl (by kernel_rfl) fun C _=>?_
  try simp(disch:=omega) only[go_sem,Nat.reduceBEq,Nat.reduceAdd]
  refine caN (by exact Small_spec (n:=1) (by decide)) ?_;rintro _ h1 _ q1;obtain⟨v1,_,_,rfl,q1⟩:=q1.sl
  try simp(disch:=omega) only[go_sem,Nat.reduceBEq,Nat.reduceAdd]
  refine caN (by exact Shl_spec (n:=w) q1 (by have:=bl_one;omega)) ?_;rintro _ h2 _ q2;obtain⟨v2,_,_,rfl,q2⟩:=q2.sl
  try simp(disch:=omega) only[go_sem,Nat.reduceBEq,Nat.reduceAdd]
  rw[e] at q2
  exact q2
theorem EUp_spec {h0 h:PH} [Le h0 h] {v:Value} {a n:Nat} (hv:N32 h0 v a) (ba:bl a≤2^39) (hn:n≤2^39):Spec mach 60 #[v,.int .i64 n] h (fun v h'=>N32 h' v (cdiv a (2^n))) NP:=by
  have b1:=bl_div_le a (2^n)
  have kS:=fun {h} [Le h0 h]=>Shr_spec (h:=h) (n:=n) hv (by omega) (by omega)
  have kL:=fun {h} [Le h0 h]=>Low_spec (h:=h) (n:=n) hv (by omega)
  obtain⟨_,_,_,rfl,_⟩:=hv.sl
  by_cases he:a % 2^n=0
  · rw[cdiv_0 (pow2_ne n) he]
    rw[decide_eq_false (fun k=>k he)] at kL
    refine Spec.go [] Tryz.func60 rfl rfl (by kernel_rfl) fun C _=>?_
    try simp(disch:=omega) only[go_sem,Nat.reduceBEq,Nat.reduceAdd]
    refine caN (by exact kS) ?_;rintro _ h1 _ q1;obtain⟨v1,_,_,rfl,q1⟩:=q1.sl
    try simp(disch:=omega) only[go_sem,Nat.reduceBEq,Nat.reduceAdd]
    refine caN (by exact kL) ?_;rintro v2 h2 s2 rfl
    try simp(disch:=omega) only[go_sem,Nat.reduceBEq,Nat.reduceAdd]
    exact q1.to
  · rw[cdiv_1 (pow2_ne n) he]
    rw[decide_eq_true he] at kL
    refine Spec.go [] Tryz.func60 rfl rfl (by kernel_rfl) fun C _=>?_
    try simp(disch:=omega) only[go_sem,Nat.reduceBEq,Nat.reduceAdd]
    refine caN (by exact kS) ?_;rintro _ h1 _ q1;obtain⟨v1,_,_,rfl,q1⟩:=q1.sl
    try simp(disch:=omega) only[go_sem,Nat.reduceBEq,Nat.reduceAdd]
    refine caN (by exact kL) ?_;rintro v2 h2 s2 rfl
    try simp(disch:=omega) only[go_sem,Nat.reduceBEq,Nat.reduceAdd]
    refine caN (by exact Small_spec (n:=1) (by decide)) ?_;rintro _ h3 _ q3;obtain⟨v3,_,_,rfl,q3⟩:=q3.sl
    try simp(disch:=omega) only[go_sem,Nat.reduceBEq,Nat.reduceAdd]
    refine caN (by exact Add_spec (q1.to (h':=h3)) q3 (by omega) (by have:=bl_one;omega)) ?_;rintro _ h4 _ q4;obtain⟨v4,_,_,rfl,q4⟩:=q4.sl
    try simp(disch:=omega) only[go_sem,Nat.reduceBEq,Nat.reduceAdd]
    exact q4
def odiv (a d:Nat) (c:Bool):Nat:=if c then cdiv a d else a / d
theorem EOver_spec {h0 h:PH} [Le h0 h] {v w:Value} {a d:Nat} {c:Bool} (hv:N32 h0 v a) (hw:N32 h0 w d) (hd:d≠0) (ba:bl a≤2^36) (bd:bl d≤2^36):Spec mach 59 #[v,w,.bool c] h (fun v h'=>N32 h' v (odiv a d c)) NP:=by
  have b1:=bl_div_le a d
  have kD:=fun {h} [Le h0 h]=>Div_spec (h:=h) hv hw hd (by omega) (by omega)
  obtain⟨_,_,_,rfl,_⟩:=hv.sl
  obtain⟨_,_,_,rfl,_⟩:=hw.sl
  cases c with
  | false=>
    refine Spec.go [] Tryz.func59 rfl rfl (by kernel_rfl) fun C _=>?_
    try simp(disch:=omega) only[go_sem,Nat.reduceBEq,Nat.reduceAdd]
    refine caN (by exact kD) ?_;rintro v1 h1 s1 ⟨q,r,rfl,hq,hr⟩;obtain⟨_,_,_,rfl,hq⟩:=hq.sl;obtain⟨_,_,_,rfl,hr⟩:=hr.sl
    try simp(disch:=omega) only[go_sem,Nat.reduceBEq,Nat.reduceAdd]
    exact hq
  | true=>
    by_cases he:a % d=0
    · rw[show odiv a d true=a / d from cdiv_0 hd he]
      refine Spec.go [] Tryz.func59 rfl rfl (by kernel_rfl) fun C _=>?_
      try simp(disch:=omega) only[go_sem,Nat.reduceBEq,Nat.reduceAdd]
      refine caN (by exact kD) ?_;rintro v1 h1 s1 ⟨q,r,rfl,hq,hr⟩;obtain⟨_,_,_,rfl,hq⟩:=hq.sl;obtain⟨_,_,_,rfl,hr⟩:=hr.sl
      try simp(disch:=omega) only[go_sem,Nat.reduceBEq,Nat.reduceAdd]
      refine caN (by exact Zero_spec hr) ?_;rintro v2 h2 s2 rfl
      try simp(disch:=omega) only[go_sem,Nat.reduceBEq,Nat.reduceAdd]
      try rw[decide_eq_true he]
      try simp(disch:=omega) only[go_sem,Nat.reduceBEq,Nat.reduceAdd]
      exact hq.to
    · rw[show odiv a d true=a / d+1 from cdiv_1 hd he]
      refine Spec.go [] Tryz.func59 rfl rfl (by kernel_rfl) fun C _=>?_
      try simp(disch:=omega) only[go_sem,Nat.reduceBEq,Nat.reduceAdd]
      refine caN (by exact kD) ?_;rintro v1 h1 s1 ⟨q,r,rfl,hq,hr⟩;obtain⟨_,_,_,rfl,hq⟩:=hq.sl;obtain⟨_,_,_,rfl,hr⟩:=hr.sl
      try simp(disch:=omega) only[go_sem,Nat.reduceBEq,Nat.reduceAdd]
      refine caN (by exact Zero_spec hr) ?_;rintro v2 h2 s2 rfl
      try simp(disch:=omega) only[go_sem,Nat.reduceBEq,Nat.reduceAdd]
      try rw[decide_eq_false he]
      try simp(disch:=omega) only[go_sem,Nat.reduceBEq,Nat.reduceAdd]
      refine caN (by exact Small_spec (n:=1) (by decide)) ?_;rintro _ h3 _ q3;obtain⟨v3,_,_,rfl,q3⟩:=q3.sl
      try simp(disch:=omega) only[go_sem,Nat.reduceBEq,Nat.reduceAdd]
      refine caN (by exact Add_spec (hq.to (h':=h3)) q3 (by omega) (by have:=bl_one;omega)) ?_;rintro _ h4 _ q4;obtain⟨v4,_,_,rfl,q4⟩:=q4.sl
      try simp(disch:=omega) only[go_sem,Nat.reduceBEq,Nat.reduceAdd]
      exact q4
theorem N32.rw {h:PH} {neg:Bool} {v w:Value} {n d:Nat} (hv:N32 h v n) (hw:N32 h w d) (bn:bl n≤2^30) (bd:bl d≤2^30):Rw h (.agg #[.bool neg,v,w]) neg n d:=by
  obtain⟨a,c,xs,rfl,ha,hx,rfl⟩:=hv.out
  obtain⟨a',c',ys,rfl,ha',hy,rfl⟩:=hw.out
  have l1:=len_le_bl (val 4294967296 xs)
  have l2:=len_le_bl (val 4294967296 ys)
  rw[hx] at l1
  rw[hy] at l2
  exact⟨a,c,xs,a',c',ys,rfl,ha,ha',rfl,rfl,by omega,by omega⟩
theorem Of_any {h0 h:PH} [Le h0 h] {v:Value} {n:Nat} (hv:N32 h0 v n):Spec mach 63 #[v] h (fun v h'=>N32 h' v n) NP:=by
  obtain⟨a,c,xs,rfl,ha,_,rfl⟩:=hv.out
  exact Of_N ha
theorem grid_rv {h:PH} {neg:Bool} {v w:Value} {a n:Nat} (hv:N32 h v a) (hw:N32 h w (2^n)) (ba:bl a≤2048) (hn:n < 2048):Rv h (.agg #[.bool neg,v,w]) (sgn neg a (2^n)):=by
  have b2:bl (2^n)≤2048:=Nat.le_trans (bl_pow2 n) hn
  have hp:2^n≠0:=Nat.ne_of_gt (Nat.pow_pos (by decide))
  have e:qof neg a (2^n)=sgn neg a (2^n):=by unfold qof dz;rw[if_neg hp]
  refine⟨neg,a,2^n,hv.rw hw (by omega) (by omega),?_,e⟩
  have:=sz_sgn neg a hp
  unfold lg
  rw[e]
  omega
theorem Rational_spec {h0 h:PH} [Le h0 h] {v:Value} {a n:Nat} {neg:Bool} (hv:N32 h0 v a) (ba:bl a≤2048) (hn:n < 2048):Spec mach 62 #[v,.int .i64 n,.bool neg] h (fun v h'=>Cn h' v (sgn neg a (2^n))) NP:=by
  have hv0:=hv
  obtain⟨_,_,_,rfl,_⟩:=hv.sl
  refine Spec.go [] Tryz.func62 rfl rfl (by kernel_rfl) fun C _=>?_
  try simp(disch:=omega) only[go_sem,Nat.reduceBEq,Nat.reduceAdd]
  refine caN (by exact Unit_spec (w:=n) (by omega)) ?_;rintro _ h1 _ q1;obtain⟨v1,_,_,rfl,q1⟩:=q1.sl
  try simp(disch:=omega) only[go_sem,Nat.reduceBEq,Nat.reduceAdd]
  refine caN (by exact NumCanon (grid_rv (neg:=neg) (hv0.to (h':=h1)) q1 ba hn)) ?_;rintro v2 h2 s2 ⟨_,_,_,_,_,_,_,rfl,c⟩
  try simp(disch:=omega) only[go_sem,Nat.reduceBEq,Nat.reduceAdd]
  exact c
def Pr (h:PH) (v:Value) (a b:Nat):Prop:=∃x m c y n d,v=.agg #[.slice x m c,.slice y n d]∧N32 h (.slice x m c) a∧N32 h (.slice y n d) b
theorem Pr.to {h h':PH} {v:Value} {a b:Nat} (r:Pr h v a b) [Le h h']:Pr h' v a b:=let ⟨x,m,c,y,n,d,e,h1,h2⟩:=r;⟨x,m,c,y,n,d,e,h1.to,h2.to⟩
def glo (x:Rat) (w:Nat):Nat:=x.num.natAbs*2^w / x.den
def ghi (x:Rat) (w:Nat):Nat:=cdiv (x.num.natAbs*2^w) x.den
theorem EScaled_spec {h0 h:PH} [Le h0 h] {v:Value} {x:Rat} {w:Nat} (hx:Cn h0 v x) (bx:sz x≤2^20) (hw:w≤2^20):Spec mach 52 #[v,.int .i64 w] h (fun v h'=>Pr h' v (glo x w) (ghi x w)) NP:=by
  have b1:=sz_num x
  have b2:=sz_den x
  have b3:=bl_shl x.num.natAbs w
  have b4:=bl_div_le (x.num.natAbs*2^w) x.den
  have hd0:x.den≠0:=x.den_nz
  obtain⟨sn,sd,rfl,hn,hd⟩:=hx
  have kO:=fun {h} [Le h0 h]=>Of_any (h:=h) hn
  have kD:=fun {h} [Le h0 h]=>Of_any (h:=h) hd
  obtain⟨_,_,_,rfl,_⟩:=hn.sl
  obtain⟨_,_,_,rfl,_⟩:=hd.sl
  by_cases h1:x.den=1
  · rw[if_pos h1] at kD
    unfold glo ghi
    rw[h1]
    rw[h1] at b4 hd0
    have e1:x.num.natAbs*2^w % 1=0:=Nat.mod_one _
    rw[cdiv_0 (by decide) e1]
    refine Spec.go [] Tryz.func52 rfl rfl (by kernel_rfl) fun C _=>?_
    try simp(disch:=omega) only[go_sem,Nat.reduceBEq,Nat.reduceAdd]
    refine caN (by exact kD) ?_;rintro _ g1 _ q1;obtain⟨v1,_,_,rfl,q1⟩:=q1.sl
    try simp(disch:=omega) only[go_sem,Nat.reduceBEq,Nat.reduceAdd]
    refine caN (by exact Zero_spec q1) ?_;rintro v2 h2 s2 hz;obtain rfl:v2=.bool true:=hz
    try simp(disch:=omega) only[go_sem,Nat.reduceBEq,Nat.reduceAdd]
    refine caN (by exact Small_spec (n:=1) (by decide)) ?_;rintro _ g3 _ q3;obtain⟨v3,_,_,rfl,q3⟩:=q3.sl
    try simp(disch:=omega) only[go_sem,Nat.reduceBEq,Nat.reduceAdd]
    refine caN (by exact kO) ?_;rintro _ g4 _ q4;obtain⟨v4,_,_,rfl,q4⟩:=q4.sl
    try simp(disch:=omega) only[go_sem,Nat.reduceBEq,Nat.reduceAdd]
    refine caN (by exact Shl_spec (n:=w) q4 (by omega)) ?_;rintro _ g5 _ q5;obtain⟨_,_,_,rfl,q5⟩:=q5.sl
    try simp(disch:=omega) only[go_sem,Nat.reduceBEq,Nat.reduceAdd]
    refine caN (by exact Div_spec q5 (q3.to (h':=g5)) (by decide) (by omega) (by decide)) ?_;rintro v6 g6 s6 ⟨q,r,rfl,hq,hr⟩;obtain⟨_,_,_,rfl,hq⟩:=hq.sl;obtain⟨_,_,_,rfl,hr⟩:=hr.sl
    try simp(disch:=omega) only[go_sem,Nat.reduceBEq,Nat.reduceAdd]
    refine caN (by exact Zero_spec hr) ?_;rintro v7 g7 s7 rfl
    try simp(disch:=omega) only[go_sem,Nat.reduceBEq,Nat.reduceAdd]
    try rw[decide_eq_true e1]
    try simp(disch:=omega) only[go_sem,Nat.reduceBEq,Nat.reduceAdd]
    exact⟨_,_,_,_,_,_,rfl,hq.to,hq.to⟩
  · rw[if_neg h1] at kD
    have e0:decide (x.den=0)=false:=decide_eq_false hd0
    by_cases he:x.num.natAbs*2^w % x.den=0
    · rw[show ghi x w=glo x w from cdiv_0 hd0 he]
      unfold glo
      refine Spec.go [] Tryz.func52 rfl rfl (by kernel_rfl) fun C _=>?_
      try simp(disch:=omega) only[go_sem,Nat.reduceBEq,Nat.reduceAdd]
      refine caN (by exact kD) ?_;rintro _ g1 _ q1;obtain⟨v1,_,_,rfl,q1⟩:=q1.sl
      try simp(disch:=omega) only[go_sem,Nat.reduceBEq,Nat.reduceAdd]
      refine caN (by exact Zero_spec q1) ?_;rintro v2 h2 s2 rfl
      try simp(disch:=omega) only[go_sem,Nat.reduceBEq,Nat.reduceAdd]
      try rw[e0]
      try simp(disch:=omega) only[go_sem,Nat.reduceBEq,Nat.reduceAdd]
      refine caN (by exact kO) ?_;rintro _ g4 _ q4;obtain⟨v4,_,_,rfl,q4⟩:=q4.sl
      try simp(disch:=omega) only[go_sem,Nat.reduceBEq,Nat.reduceAdd]
      refine caN (by exact Shl_spec (n:=w) q4 (by omega)) ?_;rintro _ g5 _ q5;obtain⟨_,_,_,rfl,q5⟩:=q5.sl
      try simp(disch:=omega) only[go_sem,Nat.reduceBEq,Nat.reduceAdd]
      refine caN (by exact Div_spec q5 (q1.to (h':=g5)) hd0 (by omega) (by omega)) ?_;rintro v6 g6 s6 ⟨q,r,rfl,hq,hr⟩;obtain⟨_,_,_,rfl,hq⟩:=hq.sl;obtain⟨_,_,_,rfl,hr⟩:=hr.sl
      try simp(disch:=omega) only[go_sem,Nat.reduceBEq,Nat.reduceAdd]
      refine caN (by exact Zero_spec hr) ?_;rintro v7 g7 s7 rfl
      try simp(disch:=omega) only[go_sem,Nat.reduceBEq,Nat.reduceAdd]
      try rw[decide_eq_true he]
      try simp(disch:=omega) only[go_sem,Nat.reduceBEq,Nat.reduceAdd]
      exact⟨_,_,_,_,_,_,rfl,hq.to,hq.to⟩
    · rw[show ghi x w=glo x w+1 from cdiv_1 hd0 he]
      unfold glo
      refine Spec.go [] Tryz.func52 rfl rfl (by kernel_rfl) fun C _=>?_
      try simp(disch:=omega) only[go_sem,Nat.reduceBEq,Nat.reduceAdd]
      refine caN (by exact kD) ?_;rintro _ g1 _ q1;obtain⟨v1,_,_,rfl,q1⟩:=q1.sl
      try simp(disch:=omega) only[go_sem,Nat.reduceBEq,Nat.reduceAdd]
      refine caN (by exact Zero_spec q1) ?_;rintro v2 h2 s2 rfl
      try simp(disch:=omega) only[go_sem,Nat.reduceBEq,Nat.reduceAdd]
      try rw[e0]
      try simp(disch:=omega) only[go_sem,Nat.reduceBEq,Nat.reduceAdd]
      refine caN (by exact kO) ?_;rintro _ g4 _ q4;obtain⟨v4,_,_,rfl,q4⟩:=q4.sl
      try simp(disch:=omega) only[go_sem,Nat.reduceBEq,Nat.reduceAdd]
      refine caN (by exact Shl_spec (n:=w) q4 (by omega)) ?_;rintro _ g5 _ q5;obtain⟨_,_,_,rfl,q5⟩:=q5.sl
      try simp(disch:=omega) only[go_sem,Nat.reduceBEq,Nat.reduceAdd]
      refine caN (by exact Div_spec q5 (q1.to (h':=g5)) hd0 (by omega) (by omega)) ?_;rintro v6 g6 s6 ⟨q,r,rfl,hq,hr⟩;obtain⟨_,_,_,rfl,hq⟩:=hq.sl;obtain⟨_,_,_,rfl,hr⟩:=hr.sl
      try simp(disch:=omega) only[go_sem,Nat.reduceBEq,Nat.reduceAdd]
      refine caN (by exact Zero_spec hr) ?_;rintro v7 g7 s7 rfl
      try simp(disch:=omega) only[go_sem,Nat.reduceBEq,Nat.reduceAdd]
      try rw[decide_eq_false he]
      try simp(disch:=omega) only[go_sem,Nat.reduceBEq,Nat.reduceAdd]
      refine caN (by exact Small_spec (n:=1) (by decide)) ?_;rintro _ g8 _ q8;obtain⟨_,_,_,rfl,q8⟩:=q8.sl
      try simp(disch:=omega) only[go_sem,Nat.reduceBEq,Nat.reduceAdd]
      refine caN (by exact Add_spec (hq.to (h':=g8)) q8 (by omega) (by decide)) ?_;rintro _ g9 _ q9;obtain⟨_,_,_,rfl,q9⟩:=q9.sl
      try simp(disch:=omega) only[go_sem,Nat.reduceBEq,Nat.reduceAdd]
      exact⟨_,_,_,_,_,_,rfl,hq.to,q9⟩
def Bk (h:PH) (v:Value) (x y:Rat):Prop:=∃b1 a1 m1 c1 a2 m2 c2 b2 a3 m3 c3 a4 m4 c4,v=.agg #[.bool b1,.slice a1 m1 c1,.slice a2 m2 c2,.bool b2,.slice a3 m3 c3,.slice a4 m4 c4]∧Cn h (.agg #[.bool b1,.slice a1 m1 c1,.slice a2 m2 c2]) x∧Cn h (.agg #[.bool b2,.slice a3 m3 c3,.slice a4 m4 c4]) y
theorem Bk.to {h h':PH} {v:Value} {x y:Rat} (r:Bk h v x y) [Le h h']:Bk h' v x y:=by
  obtain⟨b1,a1,m1,c1,a2,m2,c2,b2,a3,m3,c3,a4,m4,c4,e,k1,k2⟩:=r
  exact⟨b1,a1,m1,c1,a2,m2,c2,b2,a3,m3,c3,a4,m4,c4,e,k1.to,k2.to⟩
theorem Bracket_spec {h0 h:PH} [Le h0 h] {v:Value} {a b w p:Nat} {neg:Bool} (hv:Pr h0 v a b) (ba:bl a≤2^30) (bb:bl b≤2^30) (hp:p≤w) (hw:w≤2^30) (hp':p < 2048) (ra:bl (a / 2^(w - p))≤2048) (rb:bl (cdiv b (2^(w - p)))≤2048):
    Spec mach 47 #[v,.int .i64 w,.int .i64 p,.bool neg] h (fun v h'=>Bk h' v (if neg then sgn neg (cdiv b (2^(w - p))) (2^p) else sgn neg (a / 2^(w - p)) (2^p)) (if neg then sgn neg (a / 2^(w - p)) (2^p) else sgn neg (cdiv b (2^(w - p))) (2^p))) NP:=by
  obtain⟨x,m,c,y,n,d,rfl,k1,k2⟩:=hv
  have ew:IntKind.i64.wrap ((w:Int) - (p:Int))=((w - p:Nat):Int):=by rw[wi64 (by omega) (by omega)];omega
  have ew':(w:Int) - (p:Int)=((w - p:Nat):Int):=by omega
  cases neg
  all_goals
    refine Spec.go [(1,.t (.s [0,1,2,3,4,6,7,9,10,11,12,13,15,16] (.a 5 (.a 8 (.a 14 (.a 17 (.s [18] (.a 19 (.a 20 .d .n) .n)) (.a 19 (.a 17 (.s [18] (.a 20 .d .n)) .n) .n)) (.a 19 (.a 14 (.a 17 (.s [18] (.a 20 .d .n)) .n) .n) .n)) (.a 19 (.a 8 (.a 14 (.a 17 (.s [18] (.a 20 .d .n)) .n) .n) .n) .n)) (.a 19 (.a 5 (.a 8 (.a 14 (.a 17 (.s [18] (.a 20 .d .n)) .n) .n) .n) .n) .n))))] Tryz.func47 rfl rfl (by kernel_rfl) fun C _=>?_
    try simp(disch:=omega) only[go_sem,Nat.reduceBEq,Nat.reduceAdd,ew']
    (repeat' refine And.intro ?_ ?_)
    all_goals
      refine caN (by exact Shr_spec (n:=w - p) k1 (by omega) (by omega)) ?_;rintro _ g1 _ q1;obtain⟨v1,_,_,rfl,q1⟩:=q1.sl
      try simp(disch:=omega) only[go_sem,Nat.reduceBEq,Nat.reduceAdd]
      (repeat' refine And.intro ?_ ?_)
      all_goals
        refine caN (by exact Rational_spec (n:=p) q1 ra hp') ?_;rintro v2 g2 s2 q2;obtain⟨_,_,_,_,_,_,_,rfl,q2⟩:=q2.sa
        try simp(disch:=omega) only[go_sem,Nat.reduceBEq,Nat.reduceAdd,ew']
        (repeat' refine And.intro ?_ ?_)
        all_goals
          refine caN (by exact EUp_spec (n:=w - p) (k2.to (h':=g2)) (by omega) (by omega)) ?_;rintro _ g3 _ q3;obtain⟨v3,_,_,rfl,q3⟩:=q3.sl
          try simp(disch:=omega) only[go_sem,Nat.reduceBEq,Nat.reduceAdd]
          (repeat' refine And.intro ?_ ?_)
          all_goals
            refine caN (by exact Rational_spec (n:=p) q3 rb hp') ?_;rintro v4 g4 s4 q4;obtain⟨_,_,_,_,_,_,_,rfl,q4⟩:=q4.sa
            try simp(disch:=omega) only[go_sem,Nat.reduceBEq,Nat.reduceAdd]
            (repeat' refine And.intro ?_ ?_)
            all_goals
              try simp(disch:=omega) only[go_sem,Nat.reduceBEq,Nat.reduceAdd]
              first
                |exact⟨_,_,_,_,_,_,_,_,_,_,_,_,_,_,rfl,q2.to,q4⟩
                |exact⟨_,_,_,_,_,_,_,_,_,_,_,_,_,_,rfl,q4,q2.to⟩
theorem PSquare_spec {h0 h:PH} [Le h0 h] {v:Value} {a b w:Nat} (hv:Pr h0 v a b) (ba:bl a≤2^30) (bb:bl b≤2^30) (hw:w≤2^30):
    Spec mach 92 #[v,.int .i64 w] h (fun v h'=>Pr h' v (a*a / 2^w) (cdiv (b*b) (2^w))) NP:=by
  obtain⟨x,m,c,y,n,d,rfl,k1,k2⟩:=hv
  have b1:=bl_mul a a
  have b2:=bl_mul b b
  refine Spec.go [(1,.o [0,1,2,3,5,7,8,9,10,12,4,6,11,13,14,15])] Tryz.func92 rfl rfl (by kernel_rfl) fun C _=>?_
  try simp(disch:=omega) only[go_sem,Nat.reduceBEq,Nat.reduceAdd]
  refine caN (by exact Mul_spec k1 k1 (by omega) (by omega)) ?_;rintro _ g1 _ q1;obtain⟨v1,_,_,rfl,q1⟩:=q1.sl
  try simp(disch:=omega) only[go_sem,Nat.reduceBEq,Nat.reduceAdd]
  refine caN (by exact Shr_spec (n:=w) q1 (by omega) (by omega)) ?_;rintro _ g2 _ q2;obtain⟨v2,_,_,rfl,q2⟩:=q2.sl
  try simp(disch:=omega) only[go_sem,Nat.reduceBEq,Nat.reduceAdd]
  refine caN (by exact Mul_spec (k2.to (h':=g2)) (k2.to (h':=g2)) (by omega) (by omega)) ?_;rintro _ g3 _ q3;obtain⟨v3,_,_,rfl,q3⟩:=q3.sl
  try simp(disch:=omega) only[go_sem,Nat.reduceBEq,Nat.reduceAdd]
  refine caN (by exact EUp_spec (n:=w) q3 (by omega) (by omega)) ?_;rintro _ g4 _ q4;obtain⟨v4,_,_,rfl,q4⟩:=q4.sl
  try simp(disch:=omega) only[go_sem,Nat.reduceBEq,Nat.reduceAdd]
  exact⟨_,_,_,_,_,_,rfl,q2.to,q4⟩
theorem PTimes_spec {h0 h:PH} [Le h0 h] {v:Value} {a b n:Nat} (hv:Pr h0 v a b) (ba:bl a≤2^30) (bb:bl b≤2^30) (hn:n≤2^30):
    Spec mach 75 #[v,.int .i64 n] h (fun v h'=>Pr h' v (a*2^n) (b*2^n)) NP:=by
  obtain⟨x,m,c,y,l,d,rfl,k1,k2⟩:=hv
  refine Spec.go [(1,.o [0,1,2,4,5,6,3,7,8,9])] Tryz.func75 rfl rfl (by kernel_rfl) fun C _=>?_
  try simp(disch:=omega) only[go_sem,Nat.reduceBEq,Nat.reduceAdd]
  refine caN (by exact Shl_spec (n:=n) k1 (by omega)) ?_;rintro _ g1 _ q1;obtain⟨v1,_,_,rfl,q1⟩:=q1.sl
  try simp(disch:=omega) only[go_sem,Nat.reduceBEq,Nat.reduceAdd]
  refine caN (by exact Shl_spec (n:=n) (k2.to (h':=g1)) (by omega)) ?_;rintro _ g2 _ q2;obtain⟨v2,_,_,rfl,q2⟩:=q2.sl
  try simp(disch:=omega) only[go_sem,Nat.reduceBEq,Nat.reduceAdd]
  exact⟨_,_,_,_,_,_,rfl,q1.to,q2⟩
end Go.Q
namespace Go.Q
open Go.Proofs
set_option maxRecDepth 100000
set_option maxHeartbeats 8000000
theorem N32.len0y {h:PH} {a:Option Addr} {l c n:Nat} (r:N32 h (.slice a l c) n):l=0↔n=0:=by
  obtain⟨a',c',e,_⟩:=r
  cases e
  exact W_len0 (by decide)
theorem Cn.parts {h:PH} {v:Value} {x:Rat} (r:Cn h v x):∃na nl nc da dl dc,v=.agg #[.bool (decide (x.num < 0)),.slice na nl nc,.slice da dl dc]∧N32 h (.slice na nl nc) x.num.natAbs∧N32 h (.slice da dl dc) (if x.den=1 then 0 else x.den)∧(nl=0↔x=0)∧(dl=0↔x.den=1):=by
  obtain⟨sn,sd,rfl,h1,h2⟩:=r
  obtain⟨na,nl,nc,rfl,h1⟩:=h1.sl
  obtain⟨da,dl,dc,rfl,h2⟩:=h2.sl
  refine⟨_,_,_,_,_,_,rfl,h1,h2,?_,?_⟩
  · rw[h1.len0y,Int.natAbs_eq_zero,Rat.num_eq_zero]
  · rw[h2.len0y]
    have:=x.den_nz
    split<;>omega
theorem EWhole_spec {h0 h:PH} [Le h0 h] {v:Value} {x:Rat} (hx:Cn h0 v x):Spec mach 64 #[v] h (fun v h'=>N32 h' v x.den) NP:=by
  obtain⟨na,nl,nc,da,dl,dc,rfl,hn,hd,e1,e2⟩:=hx.parts
  by_cases h1:x.den=1
  · have e3:((dl:Int) == 0)=true:=by simp[e2.2 h1]
    rw[h1]
    refine Spec.go [] Tryz.func64 rfl rfl (by kernel_rfl) fun C _=>?_
    simp(maxSteps:=999999) (disch:=omega) only[go_sem,Nat.reduceBEq,Nat.reduceAdd,e3]
    refine caN (by exact Small_spec (n:=1) (by decide)) ?_;rintro _ g1 _ q1;obtain⟨v1,_,_,rfl,q1⟩:=q1.sl
    simp(maxSteps:=999999) (disch:=omega) only[go_sem,Nat.reduceBEq,Nat.reduceAdd]
    exact q1
  · have e3:((dl:Int) == 0)=false:=by have:=mt e2.1 h1;simp;omega
    rw[if_neg h1] at hd
    refine Spec.go [] Tryz.func64 rfl rfl (by kernel_rfl) fun C _=>?_
    simp(maxSteps:=999999) (disch:=omega) only[go_sem,Nat.reduceBEq,Nat.reduceAdd,e3]
    exact hd.to
theorem EIsOne_spec {h0 h:PH} [Le h0 h] {v:Value} {x:Rat} (hx:Cn h0 v x):Spec mach 116 #[v] h (fun v _=>v=.bool (decide (x=1))) NP:=by
  obtain⟨na,nl,nc,da,dl,dc,rfl,hn,hd,e1,e2⟩:=hx.parts
  have kO:=fun {h} [Le h0 h]=>Of_any (h:=h) hn
  have e4:x=1↔¬x.num < 0∧x.den=1∧x.num.natAbs=1:=by
    constructor
    · rintro rfl;decide
    · rintro⟨k1,k2,k3⟩
      apply Rat.ext
      · show x.num=1;omega
      · show x.den=1;exact k2
  cases hs:decide (x.num < 0) with
  | true=>
    have hs':=of_decide_eq_true hs
    rw[decide_eq_false (fun k=>(e4.1 k).1 hs')]
    refine Spec.go [] Tryz.func116 rfl rfl (by kernel_rfl) fun C _=>?_
    simp(maxSteps:=999999) (disch:=omega) only[go_sem,Nat.reduceBEq,Nat.reduceAdd]
  | false=>
    have hs':=of_decide_eq_false hs
    by_cases h1:x.den=1
    · have e3:((dl:Int) == 0)=true:=by simp[e2.2 h1]
      rw[show decide (x=1)=decide (x.num.natAbs=1) by simp only[e4,h1,hs',true_and,not_false_eq_true]]
      refine Spec.go [] Tryz.func116 rfl rfl (by kernel_rfl) fun C _=>?_
      simp(maxSteps:=999999) (disch:=omega) only[go_sem,Nat.reduceBEq,Nat.reduceAdd,e3]
      refine caN (by exact kO) ?_;rintro _ g1 _ q1;obtain⟨v1,_,_,rfl,q1⟩:=q1.sl
      simp(maxSteps:=999999) (disch:=omega) only[go_sem,Nat.reduceBEq,Nat.reduceAdd]
      refine caN (by exact One_spec q1) ?_;rintro v2 h2 s2 rfl
      simp(maxSteps:=999999) (disch:=omega) only[go_sem,Nat.reduceBEq,Nat.reduceAdd]
    · have e3:((dl:Int) == 0)=false:=by have:=mt e2.1 h1;simp;omega
      rw[decide_eq_false (fun k=>h1 (e4.1 k).2.1)]
      refine Spec.go [] Tryz.func116 rfl rfl (by kernel_rfl) fun C _=>?_
      simp(maxSteps:=999999) (disch:=omega) only[go_sem,Nat.reduceBEq,Nat.reduceAdd,e3]
def defB (fn:Int) (x:Rat):Bool:=if fn=2 then decide (0 < x) else if fn=6∨fn=7 then decide (x.num.natAbs≤x.den) else true
theorem EDefined_spec {h0 h:PH} [Le h0 h] {v:Value} {x:Rat} {fn:Int} (hx:Cn h0 v x):Spec mach 114 #[.int .i64 fn,v] h (fun v _=>v=.bool (defB fn x)) NP:=by
  have kW:=fun {h} [Le h0 h]=>EWhole_spec (h:=h) hx
  obtain⟨na,nl,nc,da,dl,dc,rfl,hn,hd,e1,e2⟩:=hx.parts
  have kO:=fun {h} [Le h0 h]=>Of_any (h:=h) hn
  unfold defB
  by_cases h2:fn=2
  · subst h2
    rw[if_pos rfl]
    cases hs:decide (x.num < 0) with
    | true=>
      have hs':=of_decide_eq_true hs
      rw[decide_eq_false (show ¬0 < x by rw[num_neg] at hs';grind)]
      refine Spec.go [(6,.o [0,1,3,2,4,5,6,7])] Tryz.func114 rfl rfl (by kernel_rfl) fun C _=>?_
      simp(maxSteps:=999999) (disch:=omega) only[go_sem,Nat.reduceBEq,Nat.reduceAdd]
    | false=>
      have hs':=of_decide_eq_false hs
      rw[num_neg] at hs'
      by_cases h0':x=0
      · have e3:decide ((nl:Int) > 0)=false:=decide_eq_false (by have:=e1.2 h0';omega)
        rw[decide_eq_false (show ¬0 < x by grind)]
        refine Spec.go [(6,.o [0,1,3,2,4,5,6,7])] Tryz.func114 rfl rfl (by kernel_rfl) fun C _=>?_
        simp(maxSteps:=999999) (disch:=omega) only[go_sem,Nat.reduceBEq,Nat.reduceAdd,e3]
      · have e3:decide ((nl:Int) > 0)=true:=decide_eq_true (by have:=mt e1.1 h0';omega)
        rw[decide_eq_true (show 0 < x by grind)]
        refine Spec.go [(6,.o [0,1,3,2,4,5,6,7])] Tryz.func114 rfl rfl (by kernel_rfl) fun C _=>?_
        simp(maxSteps:=999999) (disch:=omega) only[go_sem,Nat.reduceBEq,Nat.reduceAdd,e3]
  · have f2:(fn == 2)=false:=by simpa using h2
    rw[if_neg h2]
    by_cases h6:fn=6∨fn=7
    · rw[if_pos h6]
      have e5:decide (cmp3 x.num.natAbs x.den≤0)=decide (x.num.natAbs≤x.den):=by unfold cmp3;grind
      rcases h6 with rfl |rfl
      all_goals
        refine Spec.go [(6,.o [0,1,3,2,4,5,6,7])] Tryz.func114 rfl rfl (by kernel_rfl) fun C _=>?_
        simp(maxSteps:=999999) (disch:=omega) only[go_sem,Nat.reduceBEq,Nat.reduceAdd]
        refine caN (by exact kO) ?_;rintro _ g1 _ q1;obtain⟨v1,_,_,rfl,q1⟩:=q1.sl
        simp(maxSteps:=999999) (disch:=omega) only[go_sem,Nat.reduceBEq,Nat.reduceAdd]
        refine caN (by exact kW) ?_;rintro _ g2 _ q2;obtain⟨v2,_,_,rfl,q2⟩:=q2.sl
        simp(maxSteps:=999999) (disch:=omega) only[go_sem,Nat.reduceBEq,Nat.reduceAdd]
        refine caN (by exact Cmp_spec (q1.to (h':=g2)) q2) ?_;rintro v3 h3 s3 rfl
        simp(maxSteps:=999999) (disch:=omega) only[go_sem,Nat.reduceBEq,Nat.reduceAdd,e5]
    · have f6:(fn == 6)=false:=by simp;omega
      have f7:(fn == 7)=false:=by simp;omega
      rw[if_neg h6]
      refine Spec.go [(6,.o [0,1,3,2,4,5,6,7])] Tryz.func114 rfl rfl (by kernel_rfl) fun C _=>?_
      simp(maxSteps:=999999) (disch:=omega) only[go_sem,Nat.reduceBEq,Nat.reduceAdd,f2,f6,f7]
def exB (fn:Int) (x:Rat):Bool:=if fn=2∨fn=7 then decide (x=1) else decide (x=0)
def exV (fn:Int) (x:Rat):Rat:=if (fn=1∨fn=4)∧x=0 then 1 else 0
theorem EExact_spec {h0 h:PH} [Le h0 h] {v:Value} {x:Rat} {fn:Int} (hx:Cn h0 v x):Spec mach 80 #[.int .i64 fn,v] h (fun r h'=>∃b na nl nc da dl dc,r=.tuple #[.agg #[.bool b,.slice na nl nc,.slice da dl dc],.bool (exB fn x)]∧Cn h' (.agg #[.bool b,.slice na nl nc,.slice da dl dc]) (exV fn x)) NP:=by
  have kI:=fun {h} [Le h0 h]=>EIsOne_spec (h:=h) hx
  obtain⟨na,nl,nc,da,dl,dc,rfl,hn,hd,e1,e2⟩:=hx.parts
  have e3:((nl:Int) == 0)=decide (x=0):=by
    rw[Bool.eq_iff_iff];simp only[beq_iff_eq,decide_eq_true_eq,←e1];omega
  unfold exB exV
  by_cases h14:fn=1∨fn=4
  · rw[if_neg (show ¬(fn=2∨fn=7) by omega)]
    by_cases hz:x=0
    · rw[decide_eq_true hz] at e3
      rw[if_pos ⟨h14,hz⟩,decide_eq_true hz]
      rcases h14 with rfl |rfl
      all_goals
        refine Spec.go [(2,.y (.a 0 (.a 1 (.a 2 (.a 3 (.a 4 (.a 5 (.a 6 .d .n) .n) (.a 5 (.a 4 (.a 6 .d .n) .n) .n)) (.a 5 (.a 3 (.a 4 (.a 6 .d .n) .n) .n) .n)) (.a 5 (.a 2 (.a 3 (.a 4 (.a 6 .d .n) .n) .n) .n) .n)) (.a 5 (.a 1 (.a 2 (.a 3 (.a 4 (.a 6 .d .n) .n) .n) .n) .n) .n)) (.a 1 (.a 0 (.a 2 (.a 3 (.a 4 (.a 5 (.a 6 .d .n) .n) (.a 5 (.a 4 (.a 6 .d .n) .n) .n)) (.a 5 (.a 3 (.a 4 (.a 6 .d .n) .n) .n) .n)) (.a 5 (.a 2 (.a 3 (.a 4 (.a 6 .d .n) .n) .n) .n) .n)) (.a 2 (.a 0 (.a 3 (.a 4 (.a 5 (.a 6 .d .n) .n) (.a 5 (.a 4 (.a 6 .d .n) .n) .n)) (.a 5 (.a 3 (.a 4 (.a 6 .d .n) .n) .n) .n)) (.a 3 (.a 0 (.a 4 (.a 5 (.a 6 .d .n) .n) (.a 5 (.a 4 (.a 6 .d .n) .n) .n)) (.a 4 (.a 0 (.a 5 (.a 6 .d .n) .n) .n) .n)) .n)) .n)) .n)))] Tryz.func80 rfl rfl (by kernel_rfl) fun C _=>?_
        simp(maxSteps:=999999) (disch:=omega) only[go_sem,Nat.reduceBEq,Nat.reduceAdd,e3]
        refine caN (by exact FromInt_spec (n:=1) (by decide) (by decide)) ?_;rintro v1 h1 s1 c;obtain⟨_,_,_,_,_,_,_,rfl,c⟩:=c.sa
        simp(maxSteps:=999999) (disch:=omega) only[go_sem,Nat.reduceBEq,Nat.reduceAdd]
        exact⟨_,_,_,_,_,_,_,rfl,c⟩
    · rw[decide_eq_false hz] at e3
      rw[if_neg (fun k=>hz k.2),decide_eq_false hz]
      rcases h14 with rfl |rfl
      all_goals
        refine Spec.go [(2,.y (.a 0 (.a 1 (.a 2 (.a 3 (.a 4 (.a 5 (.a 6 .d .n) .n) (.a 5 (.a 4 (.a 6 .d .n) .n) .n)) (.a 5 (.a 3 (.a 4 (.a 6 .d .n) .n) .n) .n)) (.a 5 (.a 2 (.a 3 (.a 4 (.a 6 .d .n) .n) .n) .n) .n)) (.a 5 (.a 1 (.a 2 (.a 3 (.a 4 (.a 6 .d .n) .n) .n) .n) .n) .n)) (.a 1 (.a 0 (.a 2 (.a 3 (.a 4 (.a 5 (.a 6 .d .n) .n) (.a 5 (.a 4 (.a 6 .d .n) .n) .n)) (.a 5 (.a 3 (.a 4 (.a 6 .d .n) .n) .n) .n)) (.a 5 (.a 2 (.a 3 (.a 4 (.a 6 .d .n) .n) .n) .n) .n)) (.a 2 (.a 0 (.a 3 (.a 4 (.a 5 (.a 6 .d .n) .n) (.a 5 (.a 4 (.a 6 .d .n) .n) .n)) (.a 5 (.a 3 (.a 4 (.a 6 .d .n) .n) .n) .n)) (.a 3 (.a 0 (.a 4 (.a 5 (.a 6 .d .n) .n) (.a 5 (.a 4 (.a 6 .d .n) .n) .n)) (.a 4 (.a 0 (.a 5 (.a 6 .d .n) .n) .n) .n)) .n)) .n)) .n)))] Tryz.func80 rfl rfl (by kernel_rfl) fun C _=>?_
        simp(maxSteps:=999999) (disch:=omega) only[go_sem,Nat.reduceBEq,Nat.reduceAdd,e3]
        exact⟨_,_,_,_,_,_,_,rfl,Cn.nul _⟩
  · rw[if_neg (show ¬((fn=1∨fn=4)∧x=0) from fun k=>h14 k.1)]
    by_cases h27:fn=2∨fn=7
    · rw[if_pos h27]
      rcases h27 with rfl |rfl
      all_goals
        refine Spec.go [(2,.y (.a 0 (.a 1 (.a 2 (.a 3 (.a 4 (.a 5 (.a 6 .d .n) .n) (.a 5 (.a 4 (.a 6 .d .n) .n) .n)) (.a 5 (.a 3 (.a 4 (.a 6 .d .n) .n) .n) .n)) (.a 5 (.a 2 (.a 3 (.a 4 (.a 6 .d .n) .n) .n) .n) .n)) (.a 5 (.a 1 (.a 2 (.a 3 (.a 4 (.a 6 .d .n) .n) .n) .n) .n) .n)) (.a 1 (.a 0 (.a 2 (.a 3 (.a 4 (.a 5 (.a 6 .d .n) .n) (.a 5 (.a 4 (.a 6 .d .n) .n) .n)) (.a 5 (.a 3 (.a 4 (.a 6 .d .n) .n) .n) .n)) (.a 5 (.a 2 (.a 3 (.a 4 (.a 6 .d .n) .n) .n) .n) .n)) (.a 2 (.a 0 (.a 3 (.a 4 (.a 5 (.a 6 .d .n) .n) (.a 5 (.a 4 (.a 6 .d .n) .n) .n)) (.a 5 (.a 3 (.a 4 (.a 6 .d .n) .n) .n) .n)) (.a 3 (.a 0 (.a 4 (.a 5 (.a 6 .d .n) .n) (.a 5 (.a 4 (.a 6 .d .n) .n) .n)) (.a 4 (.a 0 (.a 5 (.a 6 .d .n) .n) .n) .n)) .n)) .n)) .n)))] Tryz.func80 rfl rfl (by kernel_rfl) fun C _=>?_
        simp(maxSteps:=999999) (disch:=omega) only[go_sem,Nat.reduceBEq,Nat.reduceAdd]
        refine caN (by exact kI) ?_;rintro v1 h1 s1 rfl
        simp(maxSteps:=999999) (disch:=omega) only[go_sem,Nat.reduceBEq,Nat.reduceAdd]
        exact⟨_,_,_,_,_,_,_,rfl,Cn.nul _⟩
    · rw[if_neg h27]
      have f1:(fn == 1)=false:=by simp;omega
      have f2:(fn == 2)=false:=by simp;omega
      have f4:(fn == 4)=false:=by simp;omega
      have f7:(fn == 7)=false:=by simp;omega
      refine Spec.go [(2,.y (.a 0 (.a 1 (.a 2 (.a 3 (.a 4 (.a 5 (.a 6 .d .n) .n) (.a 5 (.a 4 (.a 6 .d .n) .n) .n)) (.a 5 (.a 3 (.a 4 (.a 6 .d .n) .n) .n) .n)) (.a 5 (.a 2 (.a 3 (.a 4 (.a 6 .d .n) .n) .n) .n) .n)) (.a 5 (.a 1 (.a 2 (.a 3 (.a 4 (.a 6 .d .n) .n) .n) .n) .n) .n)) (.a 1 (.a 0 (.a 2 (.a 3 (.a 4 (.a 5 (.a 6 .d .n) .n) (.a 5 (.a 4 (.a 6 .d .n) .n) .n)) (.a 5 (.a 3 (.a 4 (.a 6 .d .n) .n) .n) .n)) (.a 5 (.a 2 (.a 3 (.a 4 (.a 6 .d .n) .n) .n) .n) .n)) (.a 2 (.a 0 (.a 3 (.a 4 (.a 5 (.a 6 .d .n) .n) (.a 5 (.a 4 (.a 6 .d .n) .n) .n)) (.a 5 (.a 3 (.a 4 (.a 6 .d .n) .n) .n) .n)) (.a 3 (.a 0 (.a 4 (.a 5 (.a 6 .d .n) .n) (.a 5 (.a 4 (.a 6 .d .n) .n) .n)) (.a 4 (.a 0 (.a 5 (.a 6 .d .n) .n) .n) .n)) .n)) .n)) .n)))] Tryz.func80 rfl rfl (by kernel_rfl) fun C _=>?_
      simp(maxSteps:=999999) (disch:=omega) only[go_sem,Nat.reduceBEq,Nat.reduceAdd,f1,f2,f4,f7,e3,and_self]
      exact⟨_,_,_,_,_,_,_,rfl,Cn.nul _⟩
theorem EKnown_ok {h0 h:PH} [Le h0 h] {v:Value} {x:Rat} {fn:Int} (hx:Rv h0 v x) (hf:1≤fn∧fn≤8):Spec mach 33 #[.int .i64 fn,v] h (fun r h'=>∃b na nl nc da dl dc,r=.tuple #[.agg #[.bool b,.slice na nl nc,.slice da dl dc],.int .i64 0]∧Cn h' (.agg #[.bool b,.slice na nl nc,.slice da dl dc]) x) NP:=by
  have kC:=fun {h} [Le h0 h]=>NumCanon (h:=h) hx
  obtain⟨_,_,_,_,_,_,_,rfl,_⟩:=hx.sa
  refine Spec.go [] Tryz.func33 rfl rfl (by kernel_rfl) fun C _=>?_
  simp(maxSteps:=999999) (disch:=omega) only[go_sem,Nat.reduceBEq,Nat.reduceAdd]
  refine caN (by exact kC) ?_;rintro v1 h1 s1 ⟨_,_,_,_,_,_,_,rfl,c⟩
  simp(maxSteps:=999999) (disch:=omega) only[go_sem,Nat.reduceBEq,Nat.reduceAdd]
  exact⟨_,_,_,_,_,_,_,rfl,c⟩
theorem EKnown_arg {h0 h:PH} [Le h0 h] {v:Value} {x:Rat} {fn:Int} (hx:Rv h0 v x) (hf:¬(1≤fn∧fn≤8)):Spec mach 33 #[.int .i64 fn,v] h (fun r _=>r=.tuple #[.agg #[.bool false,.slice none 0 0,.slice none 0 0],.int .i64 2]) NP:=by
  have kC:=fun {h} [Le h0 h]=>NumCanon (h:=h) hx
  obtain⟨_,_,_,_,_,_,_,rfl,_⟩:=hx.sa
  rcases Int.lt_or_le fn 1 with h1 |h1
  all_goals
    refine Spec.go [] Tryz.func33 rfl rfl (by kernel_rfl) fun C _=>?_
    simp(maxSteps:=999999) (disch:=omega) only[go_sem,Nat.reduceBEq,Nat.reduceAdd]
    refine caN (by exact kC) ?_;rintro v1 h1 s1 ⟨_,_,_,_,_,_,_,rfl,c⟩
    simp(maxSteps:=999999) (disch:=omega) only[go_sem,Nat.reduceBEq,Nat.reduceAdd]
    all_goals omega
theorem EKnown_no {h0 h:PH} [Le h0 h] {v:Value} {neg:Bool} {n d:Nat} {fn:Int} (hv:Rw h0 v neg n d) (hl:lg neg n d):Spec mach 33 #[.int .i64 fn,v] h (fun r _=>r=.tuple #[.agg #[.bool false,.slice none 0 0,.slice none 0 0],.int .i64 1]) NP:=by
  have kC:=fun {h} [Le h0 h]=>NumCanon_no (h:=h) hv hl
  obtain⟨_,_,_,_,_,_,_,rfl,_⟩:=hv.sa
  refine Spec.go [] Tryz.func33 rfl rfl (by kernel_rfl) fun C _=>?_
  simp(maxSteps:=999999) (disch:=omega) only[go_sem,Nat.reduceBEq,Nat.reduceAdd]
  refine caN (by exact kC) ?_;rintro v1 h1 s1 rfl
  simp(maxSteps:=999999) (disch:=omega) only[go_sem,Nat.reduceBEq,Nat.reduceAdd]
  all_goals omega
end Go.Q
namespace Go.Q
open Go.Proofs
set_option maxRecDepth 100000
set_option maxHeartbeats 8000000
def eLo (w y:Nat):Nat→Nat
  |0=>2^w
  |k+1=>2^w+y*eLo w y k / 2^(w+8) / (40 - k)
def eHi (w y:Nat):Nat→Nat
  |0=>2^w*2^1
  |k+1=>2^w+cdiv (cdiv (y*eHi w y k) (2^(w+8))) (40 - k)
def qLo (w a:Nat):Nat→Nat
  |0=>a
  |k+1=>qLo w a k*qLo w a k / 2^w
def qHi (w a:Nat):Nat→Nat
  |0=>a
  |k+1=>cdiv (qHi w a k*qHi w a k) (2^w)
theorem eLo_0 (w y:Nat):eLo w y 0=2^w:=rfl
theorem eLo_s (w y k:Nat):eLo w y (k+1)=2^w+y*eLo w y k / 2^(w+8) / (40 - k):=rfl
theorem eHi_0 (w y:Nat):eHi w y 0=2^w*2^1:=rfl
theorem eHi_s (w y k:Nat):eHi w y (k+1)=2^w+cdiv (cdiv (y*eHi w y k) (2^(w+8))) (40 - k):=rfl
theorem qLo_0 (w a:Nat):qLo w a 0=a:=rfl
theorem qLo_s (w a k:Nat):qLo w a (k+1)=qLo w a k*qLo w a k / 2^w:=rfl
theorem qHi_0 (w a:Nat):qHi w a 0=a:=rfl
theorem qHi_s (w a k:Nat):qHi w a (k+1)=cdiv (qHi w a k*qHi w a k) (2^w):=rfl
theorem bl_qLo (w a k:Nat):bl (qLo w a k)≤2^k*(bl a+1):=by
  induction k with
  |zero=>show bl a≤_;omega
  | succ k ih=>
    have h1:=bl_div_le (qLo w a k*qLo w a k) (2^w)
    have h2:=bl_mul (qLo w a k) (qLo w a k)
    rw[Nat.pow_succ]
    show bl (qLo w a k*qLo w a k / 2^w)≤_
    have:2^k*2*(bl a+1)=2*(2^k*(bl a+1)):=by rw[Nat.mul_comm (2^k) 2,Nat.mul_assoc]
    omega
theorem bl_qHi (w a k:Nat):bl (qHi w a k)+1≤2^k*(bl a+1):=by
  induction k with
  |zero=>show bl a+1≤_;omega
  | succ k ih=>
    have h1:=bl_cdiv (qHi w a k*qHi w a k) (pow2_ne w)
    have h2:=bl_mul (qHi w a k) (qHi w a k)
    rw[Nat.pow_succ]
    show bl (cdiv (qHi w a k*qHi w a k) (2^w))+1≤_
    have:2^k*2*(bl a+1)=2*(2^k*(bl a+1)):=by rw[Nat.mul_comm (2^k) 2,Nat.mul_assoc]
    omega
theorem TooLong_spec {h0 h:PH} [Le h0 h] {v:Value} {x:Rat} (hx:Cn h0 v x):Spec mach 115 #[v] h (fun v _=>v=.bool (decide (1024 < sz x))) NP:=by
  have kW:=fun {h} [Le h0 h]=>EWhole_spec (h:=h) hx
  obtain⟨na,nl,nc,da,dl,dc,rfl,hn,hd,e1,e2⟩:=hx.parts
  have kO:=fun {h} [Le h0 h]=>Of_any (h:=h) hn
  have e3:decide ((if (bl x.den:Int) > (bl x.num.natAbs:Int) then (bl x.den:Int) else (bl x.num.natAbs:Int)) > 1024)=decide (1024 < sz x):=by
    unfold sz
    split<;>congr 1<;>simp only[eq_iff_iff]<;>omega
  refine Spec.go [(1,.o [0,1,4,2,3,5,6,7,8,9])] Tryz.func115 rfl rfl (by kernel_rfl) fun C _=>?_
  try simp(disch:=omega) only[go_sem,Nat.reduceBEq,Nat.reduceAdd]
  refine caN (by exact kO) ?_;rintro _ g1 _ q1;obtain⟨_,_,_,rfl,q1⟩:=q1.sl
  try simp(disch:=omega) only[go_sem,Nat.reduceBEq,Nat.reduceAdd]
  refine caN (by exact Bits_spec q1) ?_;rintro v2 h2 s2 rfl
  try simp(disch:=omega) only[go_sem,Nat.reduceBEq,Nat.reduceAdd]
  refine caN (by exact kW) ?_;rintro _ g3 _ q3;obtain⟨v3,_,_,rfl,q3⟩:=q3.sl
  try simp(disch:=omega) only[go_sem,Nat.reduceBEq,Nat.reduceAdd]
  refine caN (by exact Bits_spec q3) ?_;rintro v4 h4 s4 rfl
  try simp(disch:=omega) only[go_sem,Nat.reduceBEq,Nat.reduceAdd,e3]
theorem Beyond_spec {h0 h:PH} [Le h0 h] {v:Value} {x:Rat} {n:Nat} (hx:Cn h0 v x) (bx:sz x≤2^20) (hn:n < 2^64):Spec mach 76 #[v,.int .u64 n] h (fun v _=>v=.bool (decide (x.den*n < x.num.natAbs))) NP:=by
  have b2:=sz_den x
  have b3:bl n≤64:=bl_le.2 hn
  have kW:=fun {h} [Le h0 h]=>EWhole_spec (h:=h) hx
  obtain⟨na,nl,nc,da,dl,dc,rfl,hn',hd,e1,e2⟩:=hx.parts
  have kO:=fun {h} [Le h0 h]=>Of_any (h:=h) hn'
  have e3:decide (cmp3 x.num.natAbs (x.den*n) > 0)=decide (x.den*n < x.num.natAbs):=by unfold cmp3;grind
  refine Spec.go [(1,.o [0,1,3,5,2,4,6,7,8,9,10])] Tryz.func76 rfl rfl (by kernel_rfl) fun C _=>?_
  try simp(disch:=omega) only[go_sem,Nat.reduceBEq,Nat.reduceAdd]
  refine caN (by exact kO) ?_;rintro _ g1 _ q1;obtain⟨_,_,_,rfl,q1⟩:=q1.sl
  try simp(disch:=omega) only[go_sem,Nat.reduceBEq,Nat.reduceAdd]
  refine caN (by exact kW) ?_;rintro _ g2 _ q2;obtain⟨v2,_,_,rfl,q2⟩:=q2.sl
  try simp(disch:=omega) only[go_sem,Nat.reduceBEq,Nat.reduceAdd]
  refine caN (by exact Small_spec (n:=n) hn) ?_;rintro _ g3 _ q3;obtain⟨v3,_,_,rfl,q3⟩:=q3.sl
  try simp(disch:=omega) only[go_sem,Nat.reduceBEq,Nat.reduceAdd]
  refine caN (by exact Mul_spec (q2.to (h':=g3)) q3 (by omega) (by omega)) ?_;rintro _ g4 _ q4;obtain⟨v4,_,_,rfl,q4⟩:=q4.sl
  try simp(disch:=omega) only[go_sem,Nat.reduceBEq,Nat.reduceAdd]
  refine caN (by exact Cmp_spec (q1.to (h':=g4)) q4) ?_;rintro v5 h5 s5 rfl
  try simp(disch:=omega) only[go_sem,Nat.reduceBEq,Nat.reduceAdd,e3]
end Go.Q
namespace Go.Q
open Go.Proofs
set_option maxRecDepth 100000
structure Hid (p:Prop):Prop where
  out:p
theorem Le.trn {a b c:PH} (x:Le a b) (y:Le b c):Le a c:=⟨x.sub.trans y.sub⟩
@[go_sem] theorem uw_get1 (d:Nat):(uw [d])[0]?=some (.int .u32 (d:Nat)):=rfl
theorem cdiv_le_iff {a d c:Nat} (hd:d≠0):cdiv a d≤c↔a≤d*c:=by
  unfold cdiv
  rw[Nat.div_le_iff_le_mul_add_pred (Nat.pos_of_ne_zero hd)]
  omega
def arcV (w s t:Nat):Bool→Nat→Nat
  |false,0=>(2^w*81 - t*79) / (79*81)
  |true,0=>cdiv (2^w) 79
  |false,j+1=>(2^w*2^w - t*arcV w s t true j*(77 - 2*j)) / ((77 - 2*j)*2^w)
  |true,j+1=>cdiv (2^w*2^w - s*arcV w s t false j*(77 - 2*j)) ((77 - 2*j)*2^w)
theorem arcV_0 (w s t:Nat):arcV w s t false 0=(2^w*81 - t*79) / (79*81):=rfl
theorem arcV_0' (w s t:Nat):arcV w s t true 0=cdiv (2^w) 79:=rfl
theorem arcV_s (w s t j:Nat):arcV w s t false (j+1)=(2^w*2^w - t*arcV w s t true j*(77 - 2*j)) / ((77 - 2*j)*2^w):=rfl
theorem arcV_s' (w s t j:Nat):arcV w s t true (j+1)=cdiv (2^w*2^w - s*arcV w s t false j*(77 - 2*j)) ((77 - 2*j)*2^w):=rfl
def sqL (a w:Nat):Nat:=a*a / 2^w
def sqH (b w:Nat):Nat:=cdiv (b*b) (2^w)
def arcL (a b w:Nat):Nat:=a*arcV w (sqL a w) (sqH b w) false 39 / 2^w
def arcH (a b w:Nat):Nat:=cdiv (b*arcV w (sqL a w) (sqH b w) true 39) (2^w)
theorem sqL_le {a w:Nat} (h:a≤2^w):sqL a w≤2^w:=by
  unfold sqL
  exact Nat.div_le_of_le_mul (Nat.mul_le_mul h h)
theorem sqH_le {a w:Nat} (h:a≤2^w):sqH a w≤2^w:=by
  unfold sqH
  exact(cdiv_le_iff (pow2_ne w)).2 (Nat.mul_le_mul h h)
theorem mul_div_mul {a k b:Nat} (hb:b≠0):a*b / (k*b)=a / k:=Nat.mul_div_mul_right _ _ (Nat.pos_of_ne_zero hb)
theorem arcV_le {w s t:Nat}:∀{j:Nat},j≤39→arcV w s t true j≤2^w / (79 - 2*j)+1∧arcV w s t false j≤2^w / (79 - 2*j)
  | 0,_=>by
    refine⟨cdiv_le (by decide),?_⟩
    show(2^w*81 - t*79) / (79*81)≤2^w / 79
    rw[←mul_div_mul (a:=2^w) (k:=79) (b:=81) (by decide)]
    exact Nat.div_le_div_right (Nat.sub_le _ _)
  | j +1,h=>by
    have e:79 - 2*(j+1)=77 - 2*j:=by omega
    have hk:(77 - 2*j)*2^w≠0:=Nat.mul_ne_zero (by omega) (pow2_ne w)
    have em:2^w*2^w / ((77 - 2*j)*2^w)=2^w / (77 - 2*j):=mul_div_mul (pow2_ne w)
    rw[e]
    constructor
    · refine Nat.le_trans (cdiv_le hk) ?_
      rw[←em]
      exact Nat.add_le_add_right (Nat.div_le_div_right (Nat.sub_le _ _)) 1
    · rw[←em]
      exact Nat.div_le_div_right (Nat.sub_le _ _)
theorem arc_fit {u m k t v:Nat} (hu:2^20≤u) (hm:m≤112) (hm0:0 < m) (hk:k+2≤m) (ht:t≤u) (hv:v≤u / m+1):t*v*k≤u*u:=by
  have hq:112≤u / m:=by
    rw[Nat.le_div_iff_mul_le hm0]
    have:112*m≤112*112:=Nat.mul_le_mul_left _ hm
    omega
  have hd:=Nat.mul_div_le u m
  generalize u / m=q at*
  have h1:k*(q+1)≤u:=by
    have e1:k*(q+1)+2*(q+1)≤m*(q+1):=by rw[←Nat.add_mul];exact Nat.mul_le_mul_right _ hk
    rw[Nat.mul_add m] at e1
    omega
  have h2:v*k≤u:=Nat.le_trans (Nat.mul_le_mul_right k hv) (by rw[Nat.mul_comm];exact h1)
  rw[Nat.mul_assoc]
  exact Nat.mul_le_mul ht h2
theorem arcV_sub {w s t j:Nat} (hw:20≤w) (hs:s≤2^w) (ht:t≤2^w) (hj:j < 39):t*arcV w s t true j*(77 - 2*j)≤2^w*2^w∧s*arcV w s t false j*(77 - 2*j)≤2^w*2^w:=by
  have hu:2^20≤2^w:=Nat.pow_le_pow_right (by decide) hw
  obtain⟨h1,h2⟩:=arcV_le (w:=w) (s:=s) (t:=t) (j:=j) (by omega)
  exact⟨arc_fit (m:=79 - 2*j) hu (by omega) (by omega) (by omega) ht h1,arc_fit (m:=79 - 2*j) hu (by omega) (by omega) (by omega) hs (by omega)⟩
theorem arcV_top {w s t j:Nat} {c:Bool} (hj:j≤39):arcV w s t c j≤2^w+1:=by
  obtain⟨h1,h2⟩:=arcV_le (w:=w) (s:=s) (t:=t) hj
  have:=Nat.div_le_self (2^w) (79 - 2*j)
  cases c<;>omega
theorem bl_pow_le {n w:Nat} (h:n≤2^w+1):bl n≤w+2:=by
  refine bl_le.2 ?_
  have:2^(w+2)=4*2^w:=by rw[Nat.pow_add];omega
  have:=Nat.pow_pos (n:=w) (show 0 < 2 by decide)
  omega
theorem bl_arcV {w s t j:Nat} {c:Bool} (hj:j≤39):bl (arcV w s t c j)≤w+2:=bl_pow_le (arcV_top hj)
theorem bl_sq {a w:Nat} (h:a≤2^w):bl (sqL a w)≤w+2∧bl (sqH a w)≤w+2:=⟨bl_pow_le (by have:=sqL_le h;omega),bl_pow_le (by have:=sqH_le h;omega)⟩
theorem arcL_le {a b w:Nat} (ha:a≤2^w):arcL a b w≤2^w+1:=by
  unfold arcL
  exact Nat.div_le_of_le_mul (Nat.mul_le_mul ha (arcV_top (by decide)))
theorem arcH_le {a b w:Nat} (hb:b≤2^w):arcH a b w≤2^w+1:=by
  unfold arcH
  exact(cdiv_le_iff (pow2_ne w)).2 (Nat.mul_le_mul hb (arcV_top (by decide)))
def fifL (n w:Nat):Nat:=arcL (2^w / n) (cdiv (2^w) n) w
def fifH (n w:Nat):Nat:=arcH (2^w / n) (cdiv (2^w) n) w
def piL (w:Nat):Nat:=fifL 5 w*2^4 - fifH 239 w*2^2
def piH (w:Nat):Nat:=fifH 5 w*2^4 - fifL 239 w*2^2
theorem fif_le (n:Nat) {w:Nat} (hn:n≠0):2^w / n≤2^w∧cdiv (2^w) n≤2^w:=⟨Nat.div_le_self _ _,(cdiv_le_iff hn).2 (by have:=Nat.mul_le_mul_right (2^w) (Nat.pos_of_ne_zero hn);omega)⟩
theorem bl_fif {n w:Nat} (hn:n≠0):bl (fifL n w)≤w+2∧bl (fifH n w)≤w+2:=⟨bl_pow_le (arcL_le (fif_le n hn).1),bl_pow_le (arcH_le (fif_le n hn).2)⟩
def piOk (w:Nat):Bool:=Nat.ble (fifH 239 w*2^2+3*2^w) (fifL 5 w*2^4) && Nat.ble (fifL 239 w*2^2+3*2^w) (fifH 5 w*2^4) && Nat.ble (piH w) (4*2^w) && Nat.ble (piL w+1) (piH w)
theorem piOk_all:((List.range 161).all fun i=>piOk (i+32))=true:=by decide+kernel
theorem pi_sub {w:Nat} (h1:32≤w) (h2:w≤192):fifH 239 w*2^2+3*2^w≤fifL 5 w*2^4∧fifL 239 w*2^2+3*2^w≤fifH 5 w*2^4∧piH w≤4*2^w∧piL w < piH w:=by
  have h:=List.all_eq_true.1 piOk_all (w - 32) (List.mem_range.2 (by omega))
  rw[show w - 32+32=w by omega] at h
  unfold piOk at h
  simp only[Bool.and_eq_true,Nat.ble_eq] at h
  omega
theorem piL_ge {w:Nat} (h1:32≤w) (h2:w≤192):3*2^w≤piL w∧piL w < piH w∧piH w≤4*2^w:=by
  have:=pi_sub h1 h2
  unfold piL at*
  omega
theorem bl_pi {w:Nat}:bl (piL w)≤w+6∧bl (piH w)≤w+6:=by
  obtain⟨h1,_⟩:=bl_fif (n:=5) (w:=w) (by decide)
  obtain⟨_,h2⟩:=bl_fif (n:=5) (w:=w) (by decide)
  have h3:=bl_shl (fifL 5 w) 4
  have h4:=bl_shl (fifH 5 w) 4
  have h5:bl (piL w)≤bl (fifL 5 w*2^4):=bl_mono (Nat.sub_le _ _)
  have h6:bl (piH w)≤bl (fifH 5 w*2^4):=bl_mono (Nat.sub_le _ _)
  omega
end Go.Q
namespace Go.Q
open Go.Proofs
set_option maxRecDepth 100000
theorem two_pow_dbl (w:Nat):2^(w+1)=2*2^w:=by rw[Nat.pow_succ];omega
theorem eLo_step {w y k:Nat} (hy:y≤64*2^w) (_hk:k < 40) (h:eLo w y k≤2^(w+1)):eLo w y (k+1)≤2^(w+1):=by
  show 2^w+y*eLo w y k / 2^(w+8) / (40 - k)≤2^(w+1)
  have h1:y*eLo w y k≤64*2^w*2^(w+1):=Nat.mul_le_mul hy h
  have h2:y*eLo w y k / 2^(w+8)≤2^w:=by
    refine Nat.div_le_of_le_mul (Nat.le_trans h1 ?_)
    rw[show w+8=(w+1)+7 by omega,Nat.pow_add 2 (w+1) 7,Nat.mul_comm (64*2^w),Nat.mul_assoc (2^(w+1))]
    exact Nat.mul_le_mul_left _ (by have:=Nat.pow_pos (n:=w) (show 0 < 2 by decide);omega)
  have h3:=Nat.div_le_self (y*eLo w y k / 2^(w+8)) (40 - k)
  rw[two_pow_dbl w]
  omega
theorem eLo_le {w y:Nat} (hy:y≤64*2^w):∀{k:Nat},k < 40→eLo w y k≤2^(w+1)∧eLo w y (k+1)≤2^(w+1)
  | 0,_=>by
    have h0:eLo w y 0≤2^(w+1):=by show 2^w≤_;rw[two_pow_dbl w];omega
    exact⟨h0,eLo_step hy (by decide) h0⟩
  | k+1,h=>by
    have ih:=(eLo_le hy (k:=k) (by omega)).2
    exact⟨ih,eLo_step hy h ih⟩
theorem eHi_le {w y:Nat} (hy:y≤64*2^w):∀{k:Nat},k≤40→eHi w y k≤2^(w+1)
  |0,_=>by show 2^w*2^1≤_;rw[two_pow_dbl w];omega
  | k +1,h=>by
    have ih:=eHi_le hy (k:=k) (by omega)
    show 2^w+cdiv (cdiv (y*eHi w y k) (2^(w+8))) (40 - k)≤2^(w+1)
    have h1:y*eHi w y k≤64*2^w*2^(w+1):=Nat.mul_le_mul hy ih
    have h2:cdiv (y*eHi w y k) (2^(w+8))≤2^w:=by
      refine(cdiv_le_iff (pow2_ne _)).2 (Nat.le_trans h1 ?_)
      rw[show w+8=(w+1)+7 by omega,Nat.pow_add 2 (w+1) 7,Nat.mul_comm (64*2^w),Nat.mul_assoc (2^(w+1))]
      exact Nat.mul_le_mul_left _ (by have:=Nat.pow_pos (n:=w) (show 0 < 2 by decide);omega)
    have h3:cdiv (cdiv (y*eHi w y k) (2^(w+8))) (40 - k)≤2^w:=by
      refine(cdiv_le_iff (by omega)).2 (Nat.le_trans h2 ?_)
      exact Nat.le_mul_of_pos_left _ (by omega)
    rw[two_pow_dbl w]
    omega
theorem eLo_ge (w y:Nat):∀k,2^w≤eLo w y k
  |0=>Nat.le_refl _
  |_+1=>Nat.le_add_right _ _
theorem eHi_ge (w y:Nat):∀k,2^w≤eHi w y k
  |0=>by show 2^w≤2^w*2^1;omega
  |_+1=>Nat.le_add_right _ _
theorem qLo_ge {w a:Nat} (h:2^w≤a):∀k,2^w≤qLo w a k
  |0=>h
  | k+1=>by
    have ih:=qLo_ge h k
    show 2^w≤qLo w a k*qLo w a k / 2^w
    exact(Nat.le_div_iff_mul_le (Nat.pow_pos (by decide))).2 (Nat.mul_le_mul ih ih)
theorem le_cdiv (a:Nat) {d:Nat} (hd:d≠0):a / d≤cdiv a d:=Nat.div_le_div_right (by omega)
theorem qHi_ge {w a:Nat} (h:2^w≤a):∀k,2^w≤qHi w a k
  |0=>h
  | k+1=>by
    have ih:=qHi_ge h k
    show 2^w≤cdiv (qHi w a k*qHi w a k) (2^w)
    exact Nat.le_trans ((Nat.le_div_iff_mul_le (Nat.pow_pos (by decide))).2 (Nat.mul_le_mul ih ih)) (le_cdiv _ (pow2_ne w))
theorem sq_pow (w k:Nat):2^(w+2^k)*2^(w+2^k)=2^w*2^(w+2^(k+1)):=by
  rw[←Nat.pow_add,←Nat.pow_add,Nat.pow_succ];congr 1;omega
theorem qLo_le {w a:Nat} (h:a≤2^(w+1)):∀k,qLo w a k≤2^(w+2^k)
  |0=>h
  | k+1=>by
    have ih:=qLo_le h k
    show qLo w a k*qLo w a k / 2^w≤_
    exact Nat.div_le_of_le_mul (Nat.le_trans (Nat.mul_le_mul ih ih) (Nat.le_of_eq (sq_pow w k)))
theorem qHi_le {w a:Nat} (h:a≤2^(w+1)):∀k,qHi w a k≤2^(w+2^k)
  |0=>h
  | k+1=>by
    have ih:=qHi_le h k
    show cdiv (qHi w a k*qHi w a k) (2^w)≤_
    exact(cdiv_le_iff (pow2_ne w)).2 (Nat.le_trans (Nat.mul_le_mul ih ih) (Nat.le_of_eq (sq_pow w k)))
def expL (x:Rat) (p:Nat):Nat:=qLo (p+112) (eLo (p+112) (glo x (p+112)) 40) 8
def expH (x:Rat) (p:Nat):Nat:=qHi (p+112) (eHi (p+112) (ghi x (p+112)) 40) 8
def expLo (x:Rat) (p:Nat):Rat:=if x.num < 0 then sgn false (2^(p+112+p) / expH x p) (2^p) else sgn false (expL x p / 2^112) (2^p)
def expHi (x:Rat) (p:Nat):Rat:=if x.num < 0 then sgn false (cdiv (2^(p+112+p)) (expL x p)) (2^p) else sgn false (cdiv (expH x p) (2^112)) (2^p)
theorem glo_le {x:Rat} {n w:Nat} (h:¬x.den*n < x.num.natAbs):glo x w≤n*2^w∧ghi x w≤n*2^w:=by
  have h1:x.num.natAbs*2^w≤x.den*(n*2^w):=by
    rw[←Nat.mul_assoc];exact Nat.mul_le_mul_right _ (by omega)
  exact⟨Nat.div_le_of_le_mul h1,(cdiv_le_iff x.den_nz).2 h1⟩
theorem bl_pow' {n k:Nat} (h:n≤2^k):bl n≤k+1:=by
  refine bl_le.2 ?_
  have:2^(k+1)=2*2^k:=two_pow_dbl k
  have:=Nat.pow_pos (n:=k) (show 0 < 2 by decide)
  omega
theorem exp_fit {x:Rat} {p:Nat} (h:¬x.den*64 < x.num.natAbs):bl (expL x p)≤p+369∧bl (expH x p)≤p+369∧expL x p≠0∧expH x p≠0:=by
  obtain⟨h1,h2⟩:=glo_le (w:=p+112) h
  have hp:=Nat.pow_pos (n:=p+112) (show 0 < 2 by decide)
  have g1:=qLo_ge (eLo_ge (p+112) (glo x (p+112)) 40) 8
  have g2:=qHi_ge (eHi_ge (p+112) (ghi x (p+112)) 40) 8
  refine⟨bl_pow' (qLo_le (eLo_le h1 (k:=39) (by decide)).2 8),bl_pow' (qHi_le (eHi_le h2 (by decide)) 8),?_,?_⟩
  · unfold expL;omega
  · unfold expH;omega
end Go.Q
namespace Go.Q
open Go.Proofs
set_option maxRecDepth 100000
set_option maxHeartbeats 8000000
def Be (h:PH) (r:Value) (x y:Rat):Prop:=∃b1 a1 m1 c1 a2 m2 c2 b2 a3 m3 c3 a4 m4 c4,r=.tuple #[.agg #[.bool b1,.slice a1 m1 c1,.slice a2 m2 c2,.bool b2,.slice a3 m3 c3,.slice a4 m4 c4],.int .i64 0]∧Cn h (.agg #[.bool b1,.slice a1 m1 c1,.slice a2 m2 c2]) x∧Cn h (.agg #[.bool b2,.slice a3 m3 c3,.slice a4 m4 c4]) y
theorem bl_64 {n w:Nat} (h:n≤64*2^w):bl n≤w+7:=bl_pow' (k:=w+6) (by rw[Nat.pow_add];omega)
theorem bl_cd {a k n:Nat} (h:bl a≤k) (hn:1≤n):bl (cdiv a (2^n))≤k+1:=Nat.le_trans (bl_cdiv a (pow2_ne n)) (by omega)
theorem EExp_spec {h0 h:PH} [Le h0 h] {v:Value} {x:Rat} {p:Nat} (hx:Cn h0 v x) (bx:sz x≤1024) (hb:¬x.den*64 < x.num.natAbs) (hp:p≤128):Spec mach 25 #[v,.int .i64 p] h (fun r h'=>Be h' r (expLo x p) (expHi x p)) NP:=by
  have kS:=fun {h} [Le h0 h]=>EScaled_spec (h:=h) (w:=p+112) hx (Nat.le_trans bx (by decide)) (by omega)
  obtain⟨g1,g2⟩:=glo_le (w:=p+112) hb
  have bL:=bl_64 g1
  have bH:=bl_64 g2
  have bl1:∀{k},k < 40→bl (eLo (p+112) (glo x (p+112)) k)≤p+114:=fun hk=>bl_pow' (eLo_le g1 hk).1
  have bl2:∀{k},k≤40→bl (eHi (p+112) (ghi x (p+112)) k)≤p+114:=fun hk=>bl_pow' (eHi_le g2 hk)
  have bq1:=bl_qLo (p+112) (eLo (p+112) (glo x (p+112)) 40)
  have bq2:=bl_qHi (p+112) (eHi (p+112) (ghi x (p+112)) 40)
  have b40:bl (eLo (p+112) (glo x (p+112)) 40)≤p+114:=bl_pow' (eLo_le g1 (k:=39) (by decide)).2
  have b41:=bl2 (Nat.le_refl 40)
  obtain⟨f1,f2,f3,f4⟩:=exp_fit (p:=p) hb
  obtain⟨na,nl,nc,da,dl,dc,rfl,hn,hd,e1,e2⟩:=hx.parts
  clear hn hd e1 e2 hx
  have u1:=bl_pow2 (p+112)
  have u3:=bl_pow2 (p+112+p)
  have u2:=bl_one
  generalize hD:decide (x.num < 0)=b at kS ⊢
  have f3:=Hid.mk f3
  have f4:=Hid.mk f4
  have bq1:=fun j=>Hid.mk (bq1 j)
  have bq2:=fun j=>Hid.mk (bq2 j)
  have b40:=Hid.mk b40
  have b41:=Hid.mk b41
  have f2':=Hid.mk f2
  clear hb bx g1 g2
  have F:=Hid.mk (And.intro bL (And.intro bH (And.intro f1 (And.intro f2 (And.intro u1 (And.intro u2 u3))))));clear bL bH f1 f2 u1 u2 u3
  refine Spec.go [(9,.o [0,2,3,4,6,7,9,10,1,5,8,11,12,13,14])] Tryz.func25 rfl rfl (by kernel_rfl) fun C _=>?_
  try simp(disch:=omega) only[go_sem,Nat.reduceBEq,Nat.reduceAdd]
  refine caN (by exact kS) ?_;rintro v1 h1 s1 ⟨a1,m1,c1,a2,m2,c2,rfl,q1,q2⟩
  try simp(disch:=omega) only[go_sem,Nat.reduceBEq,Nat.reduceAdd]
  refine caN (by exact Unit_spec (w:=p+112) (by have:=F.out;omega)) ?_;rintro _ h3 _ q3;obtain⟨v3,v3_l,v3_c,rfl,q3⟩:=q3.sl
  try simp(disch:=omega) only[go_sem,Nat.reduceBEq,Nat.reduceAdd]
  refine caN (by exact Unit_spec (w:=p+112) (by have:=F.out;omega)) ?_;rintro _ h4 _ q4;obtain⟨v4,_,_,rfl,q4⟩:=q4.sl
  try simp(disch:=omega) only[go_sem,Nat.reduceBEq,Nat.reduceAdd]
  refine caN (by exact Shl_spec (n:=1) q4 (by have:=F.out;omega)) ?_;rintro _ h5 _ q5;obtain⟨v5,v5_l,v5_c,rfl,q5⟩:=q5.sl
  try simp(disch:=omega) only[go_sem,Nat.reduceBEq,Nat.reduceAdd]
  refine lp [(9,.o [0,2,3,4,6,7,9,10,1,5,8,11,12,13,14])] (fun x':Value×Value×Nat=>⟨[(1,.v (.int .i64 p)),(2,.p 0 0),(4,.p 1 0),(6,.v (.int .i64 (p+112:Nat))),(7,.p 2 0),(8,.v x'.1),(9,.v x'.2.1),(10,.v (.int .u32 (x'.2.2:Nat)))],[[.bool b,.slice na nl nc,.slice da dl dc],[.bool false,.slice none 0 0,.slice none 0 0,.bool false,.slice none 0 0,.slice none 0 0],[.slice a1 m1 c1,.slice a2 m2 c2]]⟩) (fun x' h'=>Le h1 h'∧x'.2.2≤40∧N32 h' x'.1 (eLo (p+112) (glo x (p+112)) (40 - x'.2.2))∧N32 h' x'.2.1 (eHi (p+112) (ghi x (p+112)) (40 - x'.2.2))) (fun x'=>x'.2.2) (.slice v3 v3_l v3_c,.slice v5 v5_l v5_c,40) ?_ ⟨inferInstance,Nat.le_refl _,by show N32 _ _ (eLo _ _ (40 - 40));rw[Nat.sub_self,eLo_0];exact q3.to,by show N32 _ _ (eHi _ _ (40 - 40));rw[Nat.sub_self,eHi_0];exact q5⟩ (by kernel_rfl) ?_
  · try simp(disch:=omega) only[go_sem,Nat.reduceBEq,Nat.reduceAdd]
    all_goals rfl
  rintro⟨va,vb,i⟩ h6 ⟨le6,hi,ha,hb'⟩
  dsimp only at hi ha hb' ⊢
  by_cases h0i:i=0
  · subst h0i
    rw[Nat.sub_zero] at ha hb'
    obtain⟨_,_,_,rfl,ha⟩:=ha.sl
    obtain⟨_,_,_,rfl,hb'⟩:=hb'.sl
    try simp(disch:=omega) only[go_sem,Nat.reduceBEq,Nat.reduceAdd]
    refine lp [(9,.o [0,2,3,4,6,7,9,10,1,5,8,11,12,13,14])] (fun x':Value×Value×Nat=>⟨[(1,.v (.int .i64 p)),(2,.p 0 0),(4,.p 1 0),(6,.v (.int .i64 (p+112:Nat))),(8,.v x'.1),(9,.v x'.2.1),(58,.v (.int .i64 (x'.2.2:Nat)))],[[.bool b,.slice na nl nc,.slice da dl dc],[.bool false,.slice none 0 0,.slice none 0 0,.bool false,.slice none 0 0,.slice none 0 0],[.slice a1 m1 c1,.slice a2 m2 c2]]⟩) (fun x' h'=>x'.2.2≤8∧N32 h' x'.1 (qLo (p+112) (eLo (p+112) (glo x (p+112)) 40) x'.2.2)∧N32 h' x'.2.1 (qHi (p+112) (eHi (p+112) (ghi x (p+112)) 40) x'.2.2)) (fun x'=>8 - x'.2.2) (_,_,0) ?_ ⟨(show 0≤8 by decide),by show N32 _ _ (qLo _ _ 0);rw[qLo_0];exact ha,by show N32 _ _ (qHi _ _ 0);rw[qHi_0];exact hb'⟩ (by kernel_rfl) ?_
    · try simp(disch:=omega) only[go_sem,Nat.reduceBEq,Nat.reduceAdd]
      all_goals rfl
    rintro⟨va',vb',j⟩ h7 ⟨hj,hc,hd'⟩
    dsimp only at hj hc hd' ⊢
    by_cases hj8:j=8
    · subst hj8
      have hc:N32 h7 va' (expL x p):=hc
      have hd':N32 h7 vb' (expH x p):=hd'
      obtain⟨_,_,_,rfl,hc⟩:=hc.sl
      obtain⟨_,_,_,rfl,hd'⟩:=hd'.sl
      cases b with
      | false=>
        have hlt:¬x.num < 0:=of_decide_eq_false hD
        have ea:expLo x p=sgn false (expL x p / 2^(p+112 - p)) (2^p):=by unfold expLo;rw[if_neg hlt,show p+112 - p=112 by have:=F.out;omega]
        have eb:expHi x p=sgn false (cdiv (expH x p) (2^(p+112 - p))) (2^p):=by unfold expHi;rw[if_neg hlt,show p+112 - p=112 by have:=F.out;omega]
        have y1:=bl_div_le (expL x p) (2^(p+112 - p))
        have y2:=bl_cd (n:=p+112 - p) f2'.out (by have:=F.out;omega)
        rw[ea,eb]
        clear ea eb
        have F:=Hid.mk (And.intro F.out (And.intro y1 y2));clear y1 y2
        try simp(disch:=omega) only[go_sem,Nat.reduceBEq,Nat.reduceAdd]
        refine caN (by exact Bracket_spec (a:=expL x p) (b:=expH x p) (w:=p+112) (p:=p) (neg:=false) ⟨_,_,_,_,_,_,rfl,hc,hd'⟩ (by have:=F.out;omega) (by have:=F.out;omega) (by have:=F.out;omega) (by have:=F.out;omega) (by have:=F.out;omega) (by have:=F.out;omega) (by have:=F.out;omega)) ?_;rintro v8 h8 s8 ⟨_,_,_,_,_,_,_,_,_,_,_,_,_,_,rfl,r1,r2⟩
        try simp(disch:=omega) only[go_sem,Nat.reduceBEq,Nat.reduceAdd]
        exact⟨_,_,_,_,_,_,_,_,_,_,_,_,_,_,rfl,r1,r2⟩
      | true=>
        have hlt:x.num < 0:=of_decide_eq_true hD
        have y1:=bl_div_le (2^(p+112+p)) (expH x p)
        have y2:=bl_cdiv (2^(p+112+p)) f3.out
        have ea:expLo x p=sgn false (2^(p+112+p) / expH x p) (2^p):=by unfold expLo;rw[if_pos hlt]
        have eb:expHi x p=sgn false (cdiv (2^(p+112+p)) (expL x p)) (2^p):=by unfold expHi;rw[if_pos hlt]
        rw[ea,eb]
        clear ea eb
        have F:=Hid.mk (And.intro F.out (And.intro y1 y2));clear y1 y2
        try simp(disch:=omega) only[go_sem,Nat.reduceBEq,Nat.reduceAdd]
        refine caN (by exact Unit_spec (w:=p+112+p) (by have:=F.out;omega)) ?_;rintro _ h8 _ q8;obtain⟨v8,_,_,rfl,q8⟩:=q8.sl
        try simp(disch:=omega) only[go_sem,Nat.reduceBEq,Nat.reduceAdd]
        refine caN (by exact EOver_spec (c:=false) q8 (hd'.to (h':=h8)) f4.out (by have:=F.out;omega) (by have:=F.out;omega)) ?_;rintro _ h9 _ q9;obtain⟨v9,_,_,rfl,q9⟩:=q9.sl
        try simp(disch:=omega) only[go_sem,Nat.reduceBEq,Nat.reduceAdd]
        refine caN (by exact Rational_spec (n:=p) q9 (show bl (2^(p+112+p) / expH x p)≤2048 by have:=F.out;omega) (by have:=F.out;omega)) ?_;rintro v10 h10 s10 q10;obtain⟨_,_,_,_,_,_,_,rfl,q10⟩:=q10.sa
        try simp(disch:=omega) only[go_sem,Nat.reduceBEq,Nat.reduceAdd]
        refine caN (by exact EOver_spec (c:=true) (q8.to (h':=h10)) (hc.to (h':=h10)) f3.out (by have:=F.out;omega) (by have:=F.out;omega)) ?_;rintro _ h11 _ q11;obtain⟨v11,_,_,rfl,q11⟩:=q11.sl
        try simp(disch:=omega) only[go_sem,Nat.reduceBEq,Nat.reduceAdd]
        refine caN (by exact Rational_spec (n:=p) q11 (show bl (cdiv (2^(p+112+p)) (expL x p))≤2048 by have:=F.out;omega) (by have:=F.out;omega)) ?_;rintro v12 h12 s12 q12;obtain⟨_,_,_,_,_,_,_,rfl,q12⟩:=q12.sa
        try simp(disch:=omega) only[go_sem,Nat.reduceBEq,Nat.reduceAdd]
        exact⟨_,_,_,_,_,_,_,_,_,_,_,_,_,_,rfl,q10.to,q12⟩
    · have hj8:j < 8:=by have:=F.out;omega
      have z0:2^j≤2^8:=Nat.pow_le_pow_right (by decide) (by have:=F.out;omega)
      have z1:=Nat.le_trans (bq1 j).out (Nat.mul_le_mul z0 (Nat.add_le_add_right b40.out 1))
      have z2:=Nat.le_trans (bq2 j).out (Nat.mul_le_mul z0 (Nat.add_le_add_right b41.out 1))
      have z3:=bl_mul (qLo (p+112) (eLo (p+112) (glo x (p+112)) 40) j) (qLo (p+112) (eLo (p+112) (glo x (p+112)) 40) j)
      have z4:=bl_mul (qHi (p+112) (eHi (p+112) (ghi x (p+112)) 40) j) (qHi (p+112) (eHi (p+112) (ghi x (p+112)) 40) j)
      clear z0
      have F:=Hid.mk (And.intro F.out (And.intro z1 (And.intro z2 (And.intro z3 z4))));clear z1 z2 z3 z4
      try simp(disch:=omega) only[go_sem,Nat.reduceBEq,Nat.reduceAdd]
      refine caN (by exact Mul_spec hc hc (by have:=F.out;omega) (by have:=F.out;omega)) ?_;rintro _ h8 _ r1;obtain⟨w1,_,_,rfl,r1⟩:=r1.sl
      try simp(disch:=omega) only[go_sem,Nat.reduceBEq,Nat.reduceAdd]
      refine caN (by exact Shr_spec (n:=p+112) r1 (by have:=F.out;omega) (by have:=F.out;omega)) ?_;rintro _ h9 _ r2;obtain⟨w2,_,_,rfl,r2⟩:=r2.sl
      try simp(disch:=omega) only[go_sem,Nat.reduceBEq,Nat.reduceAdd]
      refine caN (by exact Mul_spec (hd'.to (h':=h9)) (hd'.to (h':=h9)) (by have:=F.out;omega) (by have:=F.out;omega)) ?_;rintro _ h10 _ r3;obtain⟨w3,_,_,rfl,r3⟩:=r3.sl
      try simp(disch:=omega) only[go_sem,Nat.reduceBEq,Nat.reduceAdd]
      refine caN (by exact EUp_spec (n:=p+112) r3 (by have:=F.out;omega) (by have:=F.out;omega)) ?_;rintro _ h11 _ r4;obtain⟨w4,_,_,rfl,r4⟩:=r4.sl
      try simp(disch:=omega) only[go_sem,Nat.reduceBEq,Nat.reduceAdd]
      dsimp only[lpE];refine⟨(_,_,j+1),?_,⟨(show j+1≤8 by have:=F.out;omega),by show N32 _ _ (qLo _ _ (j+1));rw[qLo_s];exact r2.to,by show N32 _ _ (qHi _ _ (j+1));rw[qHi_s];exact r4⟩,(show 8 - (j+1) < 8 - j by have:=F.out;omega)⟩
      try simp(disch:=omega) only[go_sem,Nat.reduceBEq,Nat.reduceAdd]
      all_goals rfl
  · obtain⟨k,hk,ek⟩:∃k,k < 40∧40 - i=k:=⟨_,by have:=F.out;omega,rfl⟩
    have ei:i=40 - k:=by have:=F.out;omega
    have en:40 - (i - 1)=k+1:=by have:=F.out;omega
    rw[ek] at ha hb'
    have c1:=bl1 hk
    have c2:=bl2 (Nat.le_of_lt hk)
    have d1:=bl_mul (glo x (p+112)) (eLo (p+112) (glo x (p+112)) k)
    have d2:=bl_mul (ghi x (p+112)) (eHi (p+112) (ghi x (p+112)) k)
    have d3:=bl_div_le (glo x (p+112)*eLo (p+112) (glo x (p+112)) k) (2^(p+112+8))
    have d4:=bl_div_le (glo x (p+112)*eLo (p+112) (glo x (p+112)) k / 2^(p+112+8)) i
    have d5:=bl_cd (n:=p+112+8) d2 (by have:=F.out;omega)
    have d6:bl (odiv (cdiv (ghi x (p+112)*eHi (p+112) (ghi x (p+112)) k) (2^(p+112+8))) i true)≤_:=bl_cdiv _ h0i
    have d7:bl i≤6:=bl_le.2 (by have:=F.out;omega)
    have h0i:=Hid.mk h0i
    have hi0:1≤i:=by have:=F.out;omega
    have ei:=Hid.mk ei
    have en:=Hid.mk en
    clear ek hk
    have F:=Hid.mk (And.intro F.out (And.intro c1 (And.intro c2 (And.intro d1 (And.intro d2 (And.intro d3 (And.intro d4 (And.intro d5 (And.intro d6 d7)))))))));clear c1 c2 d1 d2 d3 d4 d5 d6 d7
    try simp(disch:=omega) only[go_sem,Nat.reduceBEq,Nat.reduceAdd]
    refine caN (by exact Mul_spec (q1.to (h':=h6)) ha (by have:=F.out;omega) (by have:=F.out;omega)) ?_;rintro _ h7 _ r1;obtain⟨w1,_,_,rfl,r1⟩:=r1.sl
    try simp(disch:=omega) only[go_sem,Nat.reduceBEq,Nat.reduceAdd]
    refine caN (by exact Shr_spec (n:=p+112+8) r1 (by have:=F.out;omega) (by have:=F.out;omega)) ?_;rintro _ h8 _ r2;obtain⟨w2,_,_,rfl,r2⟩:=r2.sl
    try simp(disch:=omega) only[go_sem,Nat.reduceBEq,Nat.reduceAdd]
    refine caN (by exact DivSmall_spec (d:=i) r2 (by have:=F.out;omega) (by have:=F.out;omega) (by have:=F.out;omega)) ?_;rintro w3 h9 s9 ⟨_,rfl,r3⟩;obtain⟨_,_,_,rfl,r3⟩:=r3.sl
    try simp(disch:=omega) only[go_sem,Nat.reduceBEq,Nat.reduceAdd]
    refine caN (by exact Unit_spec (w:=p+112) (by have:=F.out;omega)) ?_;rintro _ h10 _ r4;obtain⟨w4,_,_,rfl,r4⟩:=r4.sl
    try simp(disch:=omega) only[go_sem,Nat.reduceBEq,Nat.reduceAdd]
    refine caN (by exact Add_spec r4 (r3.to (h':=h10)) (by have:=F.out;omega) (by have:=F.out;omega)) ?_;rintro _ h11 _ r5;obtain⟨w5,w5_l,w5_c,rfl,r5⟩:=r5.sl
    try simp(disch:=omega) only[go_sem,Nat.reduceBEq,Nat.reduceAdd]
    refine caN (by exact Unit_spec (w:=p+112) (by have:=F.out;omega)) ?_;rintro _ h12 _ r6;obtain⟨w6,_,_,rfl,r6⟩:=r6.sl
    try simp(disch:=omega) only[go_sem,Nat.reduceBEq,Nat.reduceAdd]
    refine caN (by exact Mul_spec (q2.to (h':=h12)) (hb'.to (h':=h12)) (by have:=F.out;omega) (by have:=F.out;omega)) ?_;rintro _ h13 _ r7;obtain⟨w7,_,_,rfl,r7⟩:=r7.sl
    try simp(disch:=omega) only[go_sem,Nat.reduceBEq,Nat.reduceAdd]
    refine caN (by exact EUp_spec (n:=p+112+8) r7 (by have:=F.out;omega) (by have:=F.out;omega)) ?_;rintro _ h14 _ r8;obtain⟨w8,_,_,rfl,r8⟩:=r8.sl
    try simp(disch:=omega) only[go_sem,Nat.reduceBEq,Nat.reduceAdd]
    refine caN (by exact Small_spec (n:=i) (by have:=F.out;omega)) ?_;rintro _ h15 _ r9;obtain⟨w9,_,_,rfl,r9⟩:=r9.sl
    try simp(disch:=omega) only[go_sem,Nat.reduceBEq,Nat.reduceAdd]
    refine caN (by exact EOver_spec (c:=true) (r8.to (h':=h15)) r9 h0i.out (by have:=F.out;omega) (by have:=F.out;omega)) ?_;rintro _ h16 _ r10;obtain⟨w10,_,_,rfl,r10⟩:=r10.sl
    try simp(disch:=omega) only[go_sem,Nat.reduceBEq,Nat.reduceAdd]
    refine caN (by exact Add_spec (r6.to (h':=h16)) r10 (by have:=F.out;omega) (by have:=F.out;omega)) ?_;rintro _ h17 _ r11;obtain⟨w11,w11_l,w11_c,rfl,r11⟩:=r11.sl
    try simp(disch:=omega) only[go_sem,Nat.reduceBEq,Nat.reduceAdd]
    dsimp only[lpE];refine⟨(.slice w5 w5_l w5_c,.slice w11 w11_l w11_c,i - 1),?_,⟨Le.trn le6 inferInstance,(show i - 1≤40 by have:=F.out;omega),?_,?_⟩,(show i - 1 < i by have:=F.out;omega)⟩
    · try simp(disch:=omega) only[go_sem,Nat.reduceBEq,Nat.reduceAdd]
      all_goals rfl
    · show N32 _ _ (eLo _ _ (40 - (i - 1)))
      rw[en.out,eLo_s,←ei.out]
      exact r5.to
    · show N32 _ _ (eHi _ _ (40 - (i - 1)))
      rw[en.out,eHi_s,←ei.out]
      exact r11
end Go.Q
