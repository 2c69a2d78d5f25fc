/-
  What ready returns, and what stands on it. Conditions: each theorem's own.
-/
import Derived.Test.YtpipfclemmbmcabGreatDoorK3aad23PkF
import Derived.Test.YtpipfclemmbmcabGreatDoorK693e93PkK
import Derived.Test.YtpipfclemmbmcabGreatDoorK3d5cdaPkM
import Derived.Test.YtpipfclemmbmcabGreatDoorK3f4f2bPkL
import Derived.Test.YtpipfclemmbmcabGreatDoorKe626caPkI
set_option linter.unusedVariables false
set_option linter.unusedSimpArgs false
open Nat renaming reduceBEq→ξ,reduceAdd→ζ,le_trans→χ,mul_le_mul_right→ψ,le_refl→η,mul_comm→ρ,pos_of_ne_zero→τ,mul_le_mul→qAk,pow_pos→qAo,pow_le_pow_right→qAv,zero_le→qBh,one_mul→qBm
open Bool renaming and_eq_true→φ,false_eq_true→qAw
open Rat renaming le_trans→qAq,div_def→qAx,mkRat_eq_div→qBb,mul_inv_cancel→qBf,le_refl→qBk
namespace Go.Q
open Go.Proofs
set_option maxRecDepth 100000
set_option maxHeartbeats 8000000
def eErr (fn:Int) (x:Rat) (p:Int):Int:=if ¬(1≤fn∧fn≤8)∨p < 0∨128 < p then 2 else if defB fn x=false then 5 else if 1024 < sz x∨(fn=1∧x.den*64 < x.num.natAbs)∨((fn=3∨fn=4∨fn=5)∧x.den*4294967296 < x.num.natAbs) then 20 else 0
theorem xM {fn:Int} {x:Rat} {p:Int} (h:¬(1≤fn∧fn≤8)∨p < 0∨128 < p):eErr fn x p=2:=if_pos h
theorem eErr_5 {fn:Int} {x:Rat} {p:Int} (h:¬(¬(1≤fn∧fn≤8)∨p < 0∨128 < p)) (hd:defB fn x=false):eErr fn x p=5:=by unfold eErr;rw[if_neg h,if_pos hd]
theorem vX {fn:Int} {x:Rat} {p:Int} (h:¬(¬(1≤fn∧fn≤8)∨p < 0∨128 < p)) (hd:defB fn x=true) (hb:1024 < sz x∨(fn=1∧x.den*64 < x.num.natAbs)∨((fn=3∨fn=4∨fn=5)∧x.den*4294967296 < x.num.natAbs)):eErr fn x p=20:=by unfold eErr;rw[if_neg h,hd,if_neg (by decide),if_pos hb]
theorem E6 {fn:Int} {x:Rat} {p:Int} (h:¬(¬(1≤fn∧fn≤8)∨p < 0∨128 < p)) (hd:defB fn x=true) (hb:¬(1024 < sz x∨(fn=1∧x.den*64 < x.num.natAbs)∨((fn=3∨fn=4∨fn=5)∧x.den*4294967296 < x.num.natAbs))):eErr fn x p=0:=by unfold eErr;rw[if_neg h,hd,if_neg (by decide),if_neg hb]
def Re0 (h:PH) (r:Value) (e:Int) (x:Rat):Prop:=∃b na nl nc da dl dc,r=.tuple #[.agg #[.bool b,.slice na nl nc,.slice da dl dc],.int .i64 e]∧(e=0→Cn h (.agg #[.bool b,.slice na nl nc,.slice da dl dc]) x)
theorem pJ {h0 h:PH} [Le h0 h] {v:Value} {x:Rat} {fn p:Int} (hx:Rv h0 v x):Spec mach 118 #[.int .i64 fn,v,.int .i64 p] h (fun r h'=>Re0 h' r (eErr fn x p) x) NP:=by
 have bx:=hx.sz
 by_cases hf:1≤fn∧fn≤8
 case neg=>
  have kK:=fun {h} [Le h0 h]=>oO (h:=h) hx hf
  rw[xM (.inl hf)]
  obtain⟨_,_,_,_,_,_,_,rfl,_⟩:=hx.sa
  refine Spec.go [] Tryz.func118 rfl rfl (by kernel_rfl) fun C _=>?_
  try simp(disch:=omega) only[go_sem,ξ,ζ]
  refine caN (by exact kK) ?_;rintro v1 h1 s1 rfl
  try simp(disch:=omega) only[go_sem,ξ,ζ]
  exact⟨_,_,_,_,_,_,_,rfl,fun e=>by cases e⟩
 have kK:=fun {h} [Le h0 h]=>qv (h:=h) (fn:=fn) hx hf
 by_cases hp0:p < 0
 ·rw[xM (.inr (.inl hp0))]
  obtain⟨_,_,_,_,_,_,_,rfl,_⟩:=hx.sa
  refine Spec.go [] Tryz.func118 rfl rfl (by kernel_rfl) fun C _=>?_
  try simp(disch:=omega) only[go_sem,ξ,ζ]
  refine caN (by exact kK) ?_;rintro v1 h1 s1 ⟨_,_,_,_,_,_,_,rfl,c⟩
  try simp(disch:=omega) only[go_sem,ξ,ζ]
  exact⟨_,_,_,_,_,_,_,rfl,fun e=>by cases e⟩
 by_cases hp1:128 < p
 ·rw[xM (.inr (.inr hp1))]
  obtain⟨_,_,_,_,_,_,_,rfl,_⟩:=hx.sa
  refine Spec.go [] Tryz.func118 rfl rfl (by kernel_rfl) fun C _=>?_
  try simp(disch:=omega) only[go_sem,ξ,ζ]
  refine caN (by exact kK) ?_;rintro v1 h1 s1 ⟨_,_,_,_,_,_,_,rfl,c⟩
  try simp(disch:=omega) only[go_sem,ξ,ζ]
  exact⟨_,_,_,_,_,_,_,rfl,fun e=>by cases e⟩
 have hA:¬(¬(1≤fn∧fn≤8)∨p < 0∨128 < p):=by omega
 obtain⟨_,_,_,_,_,_,_,rfl,_⟩:=hx.sa
 cases hd:defB fn x with
 | false=>
  rw[eErr_5 hA hd]
  clear hA
  refine Spec.go [] Tryz.func118 rfl rfl (by kernel_rfl) fun C _=>?_
  try simp(disch:=omega) only[go_sem,ξ,ζ]
  refine caN (by exact kK) ?_;rintro v1 h1 s1 ⟨_,_,_,_,_,_,_,rfl,c⟩
  try simp(disch:=omega) only[go_sem,ξ,ζ]
  refine caN (by exact dE (fn:=fn) c) ?_;rintro v2 h2 s2 rfl
  try simp(disch:=omega) only[go_sem,ξ,ζ]
  try rw[hd]
  try simp(disch:=omega) only[go_sem,ξ,ζ]
  exact⟨_,_,_,_,_,_,_,rfl,fun e=>by cases e⟩
 | true=>
  by_cases hl:1024 < sz x
  ·rw[vX hA hd (.inl hl)]
   have hl:=decide_eq_true hl
   clear hA
   refine Spec.go [] Tryz.func118 rfl rfl (by kernel_rfl) fun C _=>?_
   try simp(disch:=omega) only[go_sem,ξ,ζ]
   refine caN (by exact kK) ?_;rintro v1 h1 s1 ⟨_,_,_,_,_,_,_,rfl,c⟩
   try simp(disch:=omega) only[go_sem,ξ,ζ]
   refine caN (by exact dE (fn:=fn) c) ?_;rintro v2 h2 s2 rfl
   try simp(disch:=omega) only[go_sem,ξ,ζ]
   try rw[hd]
   try simp(disch:=omega) only[go_sem,ξ,ζ]
   refine caN (by exact dX (c.to (h':=h2))) ?_;rintro v3 h3 s3 rfl
   try simp(disch:=omega) only[go_sem,ξ,ζ]
   try rw[hl]
   try simp(disch:=omega) only[go_sem,ξ,ζ]
   exact⟨_,_,_,_,_,_,_,rfl,fun e=>by cases e⟩
  have hl':=decide_eq_false hl
  by_cases h1:fn=1
  ·subst h1
   by_cases hb:x.den*64 < x.num.natAbs
   ·rw[vX hA hd (.inr (.inl ⟨rfl,hb⟩))]
    have hb':=decide_eq_true hb
    clear hA
    refine Spec.go [] Tryz.func118 rfl rfl (by kernel_rfl) fun C _=>?_
    try simp(disch:=omega) only[go_sem,ξ,ζ]
    refine caN (by exact kK) ?_;rintro v1 h1 s1 ⟨_,_,_,_,_,_,_,rfl,c⟩
    try simp(disch:=omega) only[go_sem,ξ,ζ]
    refine caN (by exact dE (fn:=1) c) ?_;rintro v2 h2 s2 rfl
    try simp(disch:=omega) only[go_sem,ξ,ζ]
    try rw[hd]
    try simp(disch:=omega) only[go_sem,ξ,ζ]
    refine caN (by exact dX (c.to (h':=h2))) ?_;rintro v3 h3 s3 rfl
    try simp(disch:=omega) only[go_sem,ξ,ζ]
    try rw[hl']
    try simp(disch:=omega) only[go_sem,ξ,ζ]
    refine caN (by exact fY (n:=64) (c.to (h':=h3)) (by omega) (by decide)) ?_;rintro v4 h4 s4 rfl
    try simp(disch:=omega) only[go_sem,ξ,ζ]
    try rw[hb']
    try simp(disch:=omega) only[go_sem,ξ,ζ]
    exact⟨_,_,_,_,_,_,_,rfl,fun e=>by cases e⟩
   ·rw[E6 hA hd (by rintro(k |k |k);exact hl k;exact hb k.2;exact absurd k.1 (by decide))]
    have hb':=decide_eq_false hb
    clear hA
    refine Spec.go [] Tryz.func118 rfl rfl (by kernel_rfl) fun C _=>?_
    try simp(disch:=omega) only[go_sem,ξ,ζ]
    refine caN (by exact kK) ?_;rintro v1 h1 s1 ⟨_,_,_,_,_,_,_,rfl,c⟩
    try simp(disch:=omega) only[go_sem,ξ,ζ]
    refine caN (by exact dE (fn:=1) c) ?_;rintro v2 h2 s2 rfl
    try simp(disch:=omega) only[go_sem,ξ,ζ]
    try rw[hd]
    try simp(disch:=omega) only[go_sem,ξ,ζ]
    refine caN (by exact dX (c.to (h':=h2))) ?_;rintro v3 h3 s3 rfl
    try simp(disch:=omega) only[go_sem,ξ,ζ]
    try rw[hl']
    try simp(disch:=omega) only[go_sem,ξ,ζ]
    refine caN (by exact fY (n:=64) (c.to (h':=h3)) (by omega) (by decide)) ?_;rintro v4 h4 s4 rfl
    try simp(disch:=omega) only[go_sem,ξ,ζ]
    try rw[hb']
    try simp(disch:=omega) only[go_sem,ξ,ζ]
    exact⟨_,_,_,_,_,_,_,rfl,fun _=>c.to⟩
  by_cases h3:fn=3∨fn=4∨fn=5
  ·have hb:(x.den*4294967296 < x.num.natAbs)∨¬(x.den*4294967296 < x.num.natAbs):=Decidable.em _
   rcases hb with hb |hb
   ·rw[vX hA hd (.inr (.inr ⟨h3,hb⟩))]
    have hb':=decide_eq_true hb
    have kB:∀{h1 h:PH} {v:Value} [Le h1 h],Cn h1 v x→Spec mach 115 #[v,.int .u64 (4294967296:Nat)] h (fun v _=>v=.bool true) NP:=fun c=>by
     rw[←hb']
     exact fY (n:=4294967296) c (χ bx (by decide)) (by decide)
    clear hA hb hb' h1
    rcases h3 with rfl |rfl |rfl
    all_goals
     refine Spec.go [] Tryz.func118 rfl rfl (by kernel_rfl) fun C _=>?_
     try simp(disch:=omega) only[go_sem,ξ,ζ]
     refine caN (by exact kK) ?_;rintro v1 h1 s1 ⟨_,_,_,_,_,_,_,rfl,c⟩
     try simp(disch:=omega) only[go_sem,ξ,ζ]
     refine caN (by exact dE c) ?_;rintro v2 h2 s2 rfl
     try rw[hd]
     try simp(disch:=omega) only[go_sem,ξ,ζ]
     refine caN (by exact dX (c.to (h':=h2))) ?_;rintro v3 h3 s3 rfl
     try simp(disch:=omega) only[go_sem,ξ,ζ]
     try rw[hl']
     try simp(disch:=omega) only[go_sem,ξ,ζ]
     refine caN (by exact kB (c.to (h':=h3))) ?_;rintro v4 h4 s4 rfl
     try simp(disch:=omega) only[go_sem,ξ,ζ]
     exact⟨_,_,_,_,_,_,_,rfl,fun e=>by cases e⟩
   ·rw[E6 hA hd (by rintro(k |k |k);exact hl k;exact h1 k.1;exact hb k.2)]
    have hb':=decide_eq_false hb
    have kB:∀{h1 h:PH} {v:Value} [Le h1 h],Cn h1 v x→Spec mach 115 #[v,.int .u64 (4294967296:Nat)] h (fun v _=>v=.bool false) NP:=fun c=>by
     rw[←hb']
     exact fY (n:=4294967296) c (χ bx (by decide)) (by decide)
    clear hA hb hb' h1
    rcases h3 with rfl |rfl |rfl
    all_goals
     refine Spec.go [] Tryz.func118 rfl rfl (by kernel_rfl) fun C _=>?_
     try simp(disch:=omega) only[go_sem,ξ,ζ]
     refine caN (by exact kK) ?_;rintro v1 h1 s1 ⟨_,_,_,_,_,_,_,rfl,c⟩
     try simp(disch:=omega) only[go_sem,ξ,ζ]
     refine caN (by exact dE c) ?_;rintro v2 h2 s2 rfl
     try rw[hd]
     try simp(disch:=omega) only[go_sem,ξ,ζ]
     refine caN (by exact dX (c.to (h':=h2))) ?_;rintro v3 h3 s3 rfl
     try simp(disch:=omega) only[go_sem,ξ,ζ]
     try rw[hl']
     try simp(disch:=omega) only[go_sem,ξ,ζ]
     refine caN (by exact kB (c.to (h':=h3))) ?_;rintro v4 h4 s4 rfl
     try simp(disch:=omega) only[go_sem,ξ,ζ]
     exact⟨_,_,_,_,_,_,_,rfl,fun _=>c.to⟩
  ·rw[E6 hA hd (by rintro(k |k |k);exact hl k;exact h1 k.1;exact h3 k.1)]
   have f1:(fn == 1)=false:=by simpa using h1
   have f3:(fn == 3)=false:=by simp;omega
   have f4:(fn == 4)=false:=by simp;omega
   have f5:(fn == 5)=false:=by simp;omega
   clear hA h1 h3
   refine Spec.go [] Tryz.func118 rfl rfl (by kernel_rfl) fun C _=>?_
   try simp(disch:=omega) only[go_sem,ξ,ζ]
   refine caN (by exact kK) ?_;rintro v1 h1 s1 ⟨_,_,_,_,_,_,_,rfl,c⟩
   try simp(disch:=omega) only[go_sem,ξ,ζ]
   refine caN (by exact dE (fn:=fn) c) ?_;rintro v2 h2 s2 rfl
   try simp(disch:=omega) only[go_sem,ξ,ζ]
   try rw[hd]
   try simp(disch:=omega) only[go_sem,ξ,ζ]
   refine caN (by exact dX (c.to (h':=h2))) ?_;rintro v3 h3 s3 rfl
   try simp(disch:=omega) only[go_sem,ξ,ζ]
   try rw[hl']
   try simp(disch:=omega) only[go_sem,ξ,ζ,f1,f3,f4,f5]
   exact⟨_,_,_,_,_,_,_,rfl,fun _=>c.to⟩
def Ber (h:PH) (r:Value) (e:Int) (x y:Rat):Prop:=∃b1 a1 m1 c1 a2 m2 c2 b2 a3 m3 c3 a4 m4 c4,r=.tuple #[.agg #[.bool b1,.slice a1 m1 c1,.slice a2 m2 c2,.bool b2,.slice a3 m3 c3,.slice a4 m4 c4],.int .i64 e]∧Cn h (.agg #[.bool b1,.slice a1 m1 c1,.slice a2 m2 c2]) x∧Cn h (.agg #[.bool b2,.slice a3 m3 c3,.slice a4 m4 c4]) y
theorem Ber.no (h:PH) (e:Int):Ber h (.tuple #[.agg #[.bool false,.slice none 0 0,.slice none 0 0,.bool false,.slice none 0 0,.slice none 0 0],.int .i64 e]) e 0 0:=⟨_,_,_,_,_,_,_,_,_,_,_,_,_,_,rfl,Cn.nul h,Cn.nul h⟩
theorem Eo {h0 h:PH} [Le h0 h] {v:Value} {x:Rat} {fn p:Int} {g:FuncId} (hx:Rv h0 v x) (he:eErr fn x p≠0):Spec mach 40 #[.int .i64 fn,v,.int .i64 p,.func (.func g) #[] #[]] h (fun r h'=>Ber h' r (eErr fn x p) 0 0) NP:=by
 have kR:=fun {h} [Le h0 h]=>pJ (h:=h) (fn:=fn) (p:=p) hx
 obtain⟨_,_,_,_,_,_,_,rfl,_⟩:=hx.sa
 have f0:(eErr fn x p != 0)=true:=by simpa using he
 generalize eErr fn x p=e at*
 refine Spec.go [] Tryz.func40 rfl rfl (by kernel_rfl) fun C _=>?_
 try simp(disch:=omega) only[go_sem,ξ,ζ]
 refine caN (by exact kR) ?_;rintro v1 h1 s1 ⟨_,_,_,_,_,_,_,rfl,c⟩
 try simp(disch:=omega) only[go_sem,ξ,ζ,f0]
 exact Ber.no _ _
theorem Af {h0 h:PH} [Le h0 h] {v:Value} {x:Rat} {fn p:Int} {g:FuncId} (hx:Rv h0 v x) (he:eErr fn x p=0) (hb:exB fn x=true):Spec mach 40 #[.int .i64 fn,v,.int .i64 p,.func (.func g) #[] #[]] h (fun r h'=>Ber h' r 0 (exV fn x) (exV fn x)) NP:=by
 have kR:=fun {h} [Le h0 h]=>pJ (h:=h) (fn:=fn) (p:=p) hx
 rw[he] at kR
 have kE:=fun {h1 h:PH} {a:Value} [Le h1 h] (c:Cn h1 a x)=>ni (h:=h) (fn:=fn) c
 rw[hb] at kE
 have sv:sz (exV fn x)≤2048:=by unfold exV;split<;>decide
 obtain⟨_,_,_,_,_,_,_,rfl,_⟩:=hx.sa
 refine Spec.go [] Tryz.func40 rfl rfl (by kernel_rfl) fun C _=>?_
 try simp(disch:=omega) only[go_sem,ξ,ζ]
 refine caN (by exact kR) ?_;rintro v1 h1 s1 ⟨_,_,_,_,_,_,_,rfl,c⟩
 try simp(disch:=omega) only[go_sem,ξ,ζ]
 refine caN (by exact kE (c rfl)) ?_;rintro v2 h2 s2 ⟨_,_,_,_,_,_,_,rfl,c2⟩
 try simp(disch:=omega) only[go_sem,ξ,ζ]
 refine caN (by exact iW (Rv.of c2 sv)) ?_;rintro v3 h3 s3 ⟨_,_,_,_,_,_,_,rfl,c3⟩
 try simp(disch:=omega) only[go_sem,ξ,ζ]
 exact⟨_,_,_,_,_,_,_,_,_,_,_,_,_,_,rfl,c2.to,c3⟩
theorem Er {h0 h:PH} [Le h0 h] {v:Value} {x y z:Rat} {fn p e:Int} {g:FuncId} (hx:Rv h0 v x) (he:eErr fn x p=0) (hb:exB fn x=false) (hg:∀{h0 h:PH} {a:Value} [Le h0 h],Cn h0 a x→Spec mach g #[a,.int .i64 p] h (fun r h'=>Ber h' r e y z) NP):
  Spec mach 40 #[.int .i64 fn,v,.int .i64 p,.func (.func g) #[] #[]] h (fun r h'=>Ber h' r e y z) NP:=by
 have kR:=fun {h} [Le h0 h]=>pJ (h:=h) (fn:=fn) (p:=p) hx
 rw[he] at kR
 have kE:=fun {h1 h:PH} {a:Value} [Le h1 h] (c:Cn h1 a x)=>ni (h:=h) (fn:=fn) c
 rw[hb] at kE
 obtain⟨_,_,_,_,_,_,_,rfl,_⟩:=hx.sa
 refine Spec.go [] Tryz.func40 rfl rfl (by kernel_rfl) fun C _=>?_
 try simp(disch:=omega) only[go_sem,ξ,ζ]
 refine caN (by exact kR) ?_;rintro v1 h1 s1 ⟨_,_,_,_,_,_,_,rfl,c⟩
 try simp(disch:=omega) only[go_sem,ξ,ζ]
 refine caN (by exact kE (c rfl)) ?_;rintro v2 h2 s2 ⟨_,_,_,_,_,_,_,rfl,_⟩
 try simp(disch:=omega) only[go_sem,ξ,ζ]
 refine caN (by exact hg ((c rfl).to (h':=h2))) ?_;rintro v3 h3 s3 ⟨_,_,_,_,_,_,_,_,_,_,_,_,_,_,rfl,q3⟩
 try simp(disch:=omega) only[go_sem,ξ,ζ]
 exact⟨_,_,_,_,_,_,_,_,_,_,_,_,_,_,rfl,q3⟩
set_option maxHeartbeats 16000000
theorem wv_pos {y w:Nat} (hy:y≤2^w) (hw:1≤w):0 < wvL y w 1∧0 < wvH y w 1:=by
  obtain⟨h1,h2⟩:=m9 (w:=w) (f:=1) (s:=sqL y w) (t:=sqH y w) (by decide) 23
  have hs:=mj hy
  have ht:=jV hy
  have e:wav 1 (23 - 23)=2:=rfl
  have u0:=τ (am w)
  have u2:2≤2^w:=by
    have:2^1≤2^w:=qAv (by decide) hw
    omega
  have m1:sqH y w*waV w 1 (sqL y w) (sqH y w) true 23≤2^w*2^w:=qAk ht h1
  have m2:sqL y w*waV w 1 (sqL y w) (sqH y w) false 23≤2^w*2^w:=qAk hs h2
  have m3:2*2^w≤2^w*2^w:=ψ _ u2
  unfold wvL wvH
  rw[show waV w 1 (sqL y w) (sqH y w) false 24=_ from waV_s w 1 _ _ 23,show waV w 1 (sqL y w) (sqH y w) true 24=_ from qp w 1 _ _ 23,e]
  generalize sqH y w*waV w 1 (sqL y w) (sqH y w) true 23=a at*
  generalize sqL y w*waV w 1 (sqL y w) (sqH y w) false 23=b at*
  generalize 2^w*2^w=c at*
  have n0:2*2^w≠0:=by omega
  constructor
  · exact Nat.div_pos (by omega) (by omega)
  · by_cases hz:cdiv (c*2 - b) (2*2^w)=0
    · have:=(az (a:=c*2 - b) (c:=0) n0).1 (by omega)
      omega
    · omega
theorem H6 {y w:Nat} (hy:y≤2^w) (hw:1≤w):0 < wvH y w 2:=by
 obtain⟨h1,h2⟩:=m9 (w:=w) (f:=2) (s:=sqL y w) (t:=sqH y w) (by decide) 23
 have hs:=mj hy
 have e:wav 2 (23 - 23)=6:=rfl
 have u0:=τ (am w)
 have m2:sqL y w*waV w 2 (sqL y w) (sqH y w) false 23≤2^w*2^w:=qAk hs h2
 have m3:0 < 2^w*2^w:=Nat.mul_pos u0 u0
 unfold wvH
 rw[show waV w 2 (sqL y w) (sqH y w) true 24=_ from qp w 2 _ _ 23,e]
 generalize sqL y w*waV w 2 (sqL y w) (sqH y w) false 23=b at*
 generalize 2^w*2^w=c at*
 have n0:6*2^w≠0:=by omega
 by_cases hz:cdiv (c*6 - b) (6*2^w)=0
 ·have:=(az (a:=c*6 - b) (c:=0) n0).1 (by omega)
  omega
 ·omega
theorem rh {n d:Nat} (hd:d≠0):0 < sgn false n d↔0 < n:=by
 have hd':(0:Rat) < (d:Rat):=by exact_mod_cast τ hd
 have e:sgn false n d*(d:Rat)=(n:Rat):=by
  unfold sgn
  rw[qBb]
  show((n:Int):Rat) / (d:Rat)*(d:Rat)=_
  rw[Rat.div_mul_cancel (by grind)]
  rfl
 constructor
 ·intro h
  have:=Rat.mul_pos h hd'
  rw[e] at this
  exact_mod_cast this
 ·intro h
  have hn:(0:Rat) < (n:Rat):=by exact_mod_cast h
  rw[←e] at hn
  generalize sgn false n d=q at*
  generalize(d:Rat)=u at*
  refine Decidable.byContradiction fun c=>?_
  have:=mlr (show q≤0 by grind) (llt hd')
  grind
theorem yC (neg:Bool) (n d:Nat):sgn neg n d=if neg=true then -sgn false n d else sgn false n d:=by
 cases neg
 ·rfl
 ·unfold sgn
  simp only[if_true,qAw,if_false]
  rw[Rat.neg_mkRat]
theorem iC (z:Int) (w:Nat):glo ((z:Rat) / 2^w) w=z.natAbs:=by
 have hu:(0:Rat) < ((2^w:Nat):Rat):=u_pos w
 have e2:((2^w:Nat):Rat)=2^w:=by push_cast;rfl
 have e:=q_den ((z:Rat) / 2^w)
 have hd:=((z:Rat) / 2^w).den_nz
 generalize hq:(z:Rat) / 2^w=q at*
 have hz:(z:Rat)=q*((2^w:Nat):Rat):=by
  rw[←hq,e2,Rat.div_mul_cancel (by rw[←e2];grind)]
 have key:(q.num:Int)*((2^w:Nat):Int)=z*(q.den:Int):=by
  have:((q.num*((2^w:Nat):Int):Int):Rat)=((z*(q.den:Int):Int):Rat):=by
   rw[Rat.intCast_mul,Rat.intCast_mul,hz,←e]
   show q*(q.den:Rat)*((2^w:Nat):Rat)=q*((2^w:Nat):Rat)*(q.den:Rat)
   grind
  exact Rat.intCast_inj.1 this
 have key2:=congrArg Int.natAbs key
 rw[Int.natAbs_mul,Int.natAbs_mul] at key2
 simp only[Int.natAbs_natCast] at key2
 unfold glo
 rw[key2]
 exact Nat.mul_div_cancel _ (τ hd)
theorem sn_sign {x:Rat} {w:Nat} (hw:64≤w) (hw':w≤192) (hb:¬x.den*4294967296 < x.num.natAbs):(0 < snl x w→0 < snh x w)∧(snh x w < 0→snl x w < 0):=by
 obtain⟨l1,l2⟩:=uP hw hw' hb
 obtain⟨_,hAB,_⟩:=rs_bd hw hw' (iP hb)
 have gA:∃z:Int,rsA x w=(z:Rat) / 2^w:=⟨_,rfl⟩
 have gB:∃z:Int,rsB x w=(z:Rat) / 2^w:=⟨_,rfl⟩
 have pA:=H6 l1 (by omega)
 have pB:=H6 l2 (by omega)
 have nz:=am w
 have cpos:∀{y v:Nat},0 < y→0 < v→0 < cdiv (y*v) (2^w):=fun {y v} hy hv=>by
  by_cases hz:cdiv (y*v) (2^w)=0
  ·have h1:=(az (c:=0) (a:=y*v) nz).1 (by omega)
   have h2:=Nat.mul_pos hy hv
   omega
  ·omega
 have gpos:∀{q:Rat},(∃z:Int,q=(z:Rat) / 2^w)→q≠0→0 < glo q w:=by
  rintro q ⟨z,rfl⟩ h
  rw[iC]
  have:z≠0:=by
   rintro rfl
   exact h (by rw[qAx,Rat.intCast_zero,Rat.zero_mul])
  omega
 constructor
 ·intro h
  unfold snl snAt at h
  have sA:¬(rsA x w).num < 0:=by
   intro hs
   rw[decide_eq_true hs,if_neg (by decide),yC,if_pos rfl] at h
   have:0≤sgn false (cdiv (glo (rsA x w) w*wvH (glo (rsA x w) w) w 2) (2^w)) (2^w):=by
    rcases Nat.eq_zero_or_pos (cdiv (glo (rsA x w) w*wvH (glo (rsA x w) w) w 2) (2^w)) with e |e
    ·rw[e,ov];exact qBk
    ·exact llt ((rh nz).2 e)
   grind
  have nA:rsA x w≠0:=by
   intro e
   rw[e] at h
   have:glo 0 w=0:=by unfold glo;simp
   rw[this,if_pos (by decide),Nat.zero_mul,Nat.zero_div,ov] at h
   exact absurd h (by decide)
  rw[num_neg] at sA
  have pB0:0 < rsB x w:=by grind
  have nB:rsB x w≠0:=by grind
  have sB:¬(rsB x w).num < 0:=by rw[num_neg];grind
  unfold snh snAt
  rw[decide_eq_false sB,if_neg (by decide)]
  exact(rh nz).2 (cpos (gpos gB nB) pB)
 ·intro h
  unfold snh snAt at h
  have sB:(rsB x w).num < 0:=by
   refine Decidable.byContradiction fun hs=>?_
   rw[decide_eq_false hs,if_neg (by decide)] at h
   have:0≤sgn false (cdiv (glo (rsB x w) w*wvH (glo (rsB x w) w) w 2) (2^w)) (2^w):=by
    rcases Nat.eq_zero_or_pos (cdiv (glo (rsB x w) w*wvH (glo (rsB x w) w) w 2) (2^w)) with e |e
    ·rw[e,ov];exact qBk
    ·exact llt ((rh nz).2 e)
   grind
  rw[num_neg] at sB
  have nA:rsA x w≠0:=by grind
  have sA:(rsA x w).num < 0:=by rw[num_neg];grind
  unfold snl snAt
  rw[decide_eq_true sA,if_neg (by decide),yC,if_pos rfl]
  have:=(rh nz).2 (cpos (gpos gA nA) pA)
  grind
theorem co_ne {x:Rat} {w:Nat} (hw:64≤w) (hw':w≤192) (hb:¬x.den*4294967296 < x.num.natAbs) (hn:¬(coL x w≤0∧0≤coH x w)):coL x w≠0∧coH x w≠0:=by
 obtain⟨s1,s2⟩:=sn_sign hw hw' hb
 obtain⟨l1,l2⟩:=uP hw hw' hb
 have lX:csX (rsA x w) (rsB x w) w≤2^w:=by unfold csX;omega
 have lN:csN (rsA x w) (rsB x w) w≤2^w:=by unfold csN;split<;>omega
 have c1:0 < csl x w:=(rh (am w)).2 (wv_pos lX (by omega)).1
 have c2:0 < csh x w:=(rh (am w)).2 (wv_pos lN (by omega)).2
 unfold coL coH at*
 generalize snl x w=a at*
 generalize snh x w=b at*
 generalize csl x w=c at*
 generalize csh x w=d at*
 generalize rsK x w % 4=k at*
 by_cases h1:k=1
 ·simp only[if_pos h1] at*
  grind
 ·simp only[if_neg h1] at*
  by_cases h2:k=2
  ·simp only[if_pos h2] at*
   grind
  ·simp only[if_neg h2] at*
   by_cases h3:k=3
   ·simp only[if_pos h3] at*
    grind
   ·simp only[if_neg h3] at*
    grind
def tq (x:Rat) (w:Nat):Nat→Rat
 |0=>siL x w*(coL x w)⁻¹
 |1=>siL x w*(coH x w)⁻¹
 |2=>siH x w*(coL x w)⁻¹
 |_=>siH x w*(coH x w)⁻¹
def tqL (x:Rat) (w:Nat):Nat→Rat
 |0=>tq x w 0
 |n+1=>if tq x w (n+1) < tqL x w n then tq x w (n+1) else tqL x w n
def tqH (x:Rat) (w:Nat):Nat→Rat
 |0=>tq x w 0
 |n+1=>if tqH x w n < tq x w (n+1) then tq x w (n+1) else tqH x w n
theorem tq_sz {x:Rat} {w:Nat} (hb:¬x.den*4294967296 < x.num.natAbs) (hw:64≤w) (hw':w≤192):∀n,sz (tq x w n)≤2*w+4:=by
 obtain⟨z1,z2,z3,z4⟩:=sc_sz hb hw hw'
 have i1:=iQ (coL x w)
 have i2:=iQ (coH x w)
 have m1:=bV (siL x w) (coL x w)⁻¹
 have m2:=bV (siL x w) (coH x w)⁻¹
 have m3:=bV (siH x w) (coL x w)⁻¹
 have m4:=bV (siH x w) (coH x w)⁻¹
 intro n
 unfold tq
 split<;>omega
theorem BV {x:Rat} {w:Nat} (hb:¬x.den*4294967296 < x.num.natAbs) (hw:64≤w) (hw':w≤192):∀n,sz (tqL x w n)≤2*w+4∧sz (tqH x w n)≤2*w+4
 |0=>⟨tq_sz hb hw hw' 0,tq_sz hb hw hw' 0⟩
 | n+1=>by
  obtain⟨h1,h2⟩:=BV hb hw hw' n
  have h3:=tq_sz hb hw hw' (n+1)
  unfold tqL tqH
  constructor<;>split<;>assumption
theorem cmpQ_lt0 (x y:Rat):decide (cmpQ x y < 0)=decide (x < y):=by unfold cmpQ;grind
theorem cmpQ_gt0 (x y:Rat):decide (cmpQ x y > 0)=decide (y < x):=by unfold cmpQ;grind
theorem pA:Int.toNat 1=1∧(∀n:Nat,0*n=0)∧(∀n:Nat,1*n=n)∧(∀n:Nat,0+n=n)∧(∀(a b:Value) (l:List Value),(a :: l).set 0 b=b :: l)∧(∀(a b:Value) (l:List Value) (i:Nat),(a :: l).set (i+1) b=a :: l.set i b):=
 ⟨rfl,Nat.zero_mul,qBm,Nat.zero_add,fun _ _ _=>rfl,fun _ _ _ _=>rfl⟩
theorem ym {x y:Rat} {m:Nat} (e:m=0↔x=0):(x≤0∧0≤y)↔((decide (x.num < 0)=true∨decide ((m:Int) > 0)=false)∧decide (y.num < 0)=false):=by
 have h1:=num_neg (x:=x)
 have h2:=num_neg (x:=y)
 simp only[decide_eq_true_eq,decide_eq_false_iff_not,num_neg]
 constructor
 ·rintro⟨a,b⟩
  refine⟨?_,by grind⟩
  by_cases c:x < 0
  ·exact .inl c
  ·have:x=0:=by grind
   exact .inr (by have:=e.2 this;omega)
 ·rintro⟨a |a,b⟩
  ·exact⟨by grind,by grind⟩
  ·have:x=0:=e.1 (by omega)
   exact⟨by grind,by grind⟩
theorem ETan_no {h0 h:PH} [Le h0 h] {v:Value} {x:Rat} {p:Nat} (hx:Cn h0 v x) (bx:sz x≤1024) (hb:¬x.den*4294967296 < x.num.natAbs) (hp:p≤128) (hq:coL x (p+64)≤0∧0≤coH x (p+64)):Spec mach 35 #[v,.int .i64 p] h (fun r h'=>Ber h' r 20 0 0) NP:=by
 have kB:=fun {h} [Le h0 h]=>oN (h:=h) (w:=p+64) hx bx hb (by omega) (by omega)
 obtain⟨_,_,_,_,_,_,_,rfl,_⟩:=hx.sa
 clear hb bx hx
 refine Spec.go [(6,.h [] [(9,11)] [2,3] [2,3,0,1,4,5])] Tryz.func35 rfl rfl (by kernel_rfl) fun C _=>?_
 try simp(maxSteps:=999999) (disch:=omega) only[go_sem,ξ,ζ,pA]
 refine caN (by exact kB) ?_;rintro v1 h1 s1 ⟨u,t,rfl,q1,q2⟩;obtain⟨_,_,_,_,_,_,_,_,_,_,_,_,_,_,rfl,q1⟩:=q1.sp;obtain⟨d1,e1,n1,c1,e2,n2,c2,d2,e3,n3,c3,e4,n4,c4,rfl,k1,k2⟩:=q2
 try simp(maxSteps:=999999) (disch:=omega) only[go_sem,ξ,ζ,pA]
 obtain⟨_,_,_,_,_,_,e,_,_,ea,_⟩:=k1.parts
 cases e
 obtain⟨_,_,_,_,_,_,e,_,_,_,_⟩:=k2.parts
 cases e
 obtain⟨hs,hy⟩:=(ym ea).1 hq
 clear hq
 cases ha:decide ((coL x (p+64)).num < 0) with
 | true=>
  try simp(maxSteps:=999999) (disch:=omega) only[go_sem,ξ,ζ,ha,hy,pA]
  exact Ber.no _ _
 | false=>
  have hs:=hs.resolve_left (by rw[ha];decide)
  try simp(maxSteps:=999999) (disch:=omega) only[go_sem,ξ,ζ,ha,hy,hs,pA]
  exact Ber.no _ _
theorem ETan_ok {h0 h:PH} [Le h0 h] {v:Value} {x:Rat} {p:Nat} (hx:Cn h0 v x) (bx:sz x≤1024) (hb:¬x.den*4294967296 < x.num.natAbs) (hp:p≤128) (hq:¬(coL x (p+64)≤0∧0≤coH x (p+64))):Spec mach 35 #[v,.int .i64 p] h (fun r h'=>Ber h' r 0 (gdown (tqL x (p+64) 3) p) (gup (tqH x (p+64) 3) p)) NP:=by
 have kB:=fun {h} [Le h0 h]=>oN (h:=h) (w:=p+64) hx bx hb (by omega) (by omega)
 obtain⟨z1,z2,z3,z4⟩:=sc_sz (w:=p+64) hb (by omega) (by omega)
 obtain⟨n1',n2'⟩:=co_ne (w:=p+64) (by omega) (by omega) hb hq
 have zq:=tq_sz (x:=x) (w:=p+64) hb (by omega) (by omega)
 have zL:=fun n=>(BV (x:=x) (w:=p+64) hb (by omega) (by omega) n).1
 have zH:=fun n=>(BV (x:=x) (w:=p+64) hb (by omega) (by omega) n).2
 have y1:=sz_gd (tqL x (p+64) 3) p
 have y2:=sz_gu (tqH x (p+64) 3) p
 have zq:∀n,sz (tq x (p+64) n)≤2048:=fun n=>by have:=zq n;omega
 have y3:=zL 3
 have y4:=zH 3
 have zL:∀n,sz (tqL x (p+64) n)≤2048:=fun n=>by have:=zL n;omega
 have zH:∀n,sz (tqH x (p+64) n)≤2048:=fun n=>by have:=zH n;omega
 have z1:sz (siL x (p+64))≤2048:=by omega
 have z2:sz (siH x (p+64))≤2048:=by omega
 have z3:sz (coL x (p+64))≤2048:=by omega
 have z4:sz (coH x (p+64))≤2048:=by omega
 have y5:sz (gdown (tqL x (p+64) 3) p)≤2048:=by omega
 have y6:sz (gup (tqH x (p+64) 3) p)≤2048:=by omega
 have L1:∀n,tq x (p+64) (n+1) < tqL x (p+64) n→tqL x (p+64) (n+1)=tq x (p+64) (n+1):=fun n h=>if_pos h
 have L2:∀n,¬tq x (p+64) (n+1) < tqL x (p+64) n→tqL x (p+64) (n+1)=tqL x (p+64) n:=fun n h=>if_neg h
 have H1:∀n,tqH x (p+64) n < tq x (p+64) (n+1)→tqH x (p+64) (n+1)=tq x (p+64) (n+1):=fun n h=>if_pos h
 have H2:∀n,¬tqH x (p+64) n < tq x (p+64) (n+1)→tqH x (p+64) (n+1)=tqH x (p+64) n:=fun n h=>if_neg h
 have e0:siL x (p+64)*(coL x (p+64))⁻¹=tq x (p+64) 0:=rfl
 have e1:siL x (p+64)*(coH x (p+64))⁻¹=tq x (p+64) 1:=rfl
 have e2:siH x (p+64)*(coL x (p+64))⁻¹=tq x (p+64) 2:=rfl
 have e3:siH x (p+64)*(coH x (p+64))⁻¹=tq x (p+64) 3:=rfl
 have b0:tqL x (p+64) 0=tq x (p+64) 0:=rfl
 have b1:tqH x (p+64) 0=tq x (p+64) 0:=rfl
 generalize tqL x (p+64)=TL at*
 generalize tqH x (p+64)=TH at*
 generalize tq x (p+64)=T at*
 obtain⟨_,_,_,_,_,_,_,rfl,_⟩:=hx.sa
 clear hb bx hx y1 y2 y3 y4
 refine Spec.go [(6,.h [] [(9,11)] [2,3] [2,3,0,1,4,5])] Tryz.func35 rfl rfl (by kernel_rfl) fun C _=>?_
 try simp(maxSteps:=999999) (disch:=omega) only[go_sem,ξ,ζ,pA]
 refine caN (by exact kB) ?_;rintro v1 h1 s1 ⟨u,t,rfl,q1,q2⟩;obtain⟨a1,a2,a3,a4,a5,a6,a7,a8,a9,a10,a11,a12,a13,a14,rfl,k1,k2⟩:=q1;obtain⟨d1,f1,n1,c1,f2,n2,c2,d2,f3,n3,c3,f4,n4,c4,rfl,k3,k4⟩:=q2
 try simp(maxSteps:=999999) (disch:=omega) only[go_sem,ξ,ζ,pA]
 obtain⟨_,_,_,_,_,_,e,_,_,ea,_⟩:=k3.parts
 cases e
 obtain⟨_,_,_,_,_,_,e,_,_,_,_⟩:=k4.parts
 cases e
 have hn:=fun c=>hq ((ym ea).2 c)
 clear hq
 generalize siL x (p+64)=sL at*
 generalize siH x (p+64)=sH at*
 generalize coL x (p+64)=cL at*
 generalize coH x (p+64)=cH at*
 have kD:=fun {h} [Le h1 h]=>o6 (h:=h) (Rv.of k1 z1) (Rv.of k3 z3) n1'
 have kD1:=fun {h} [Le h1 h]=>o6 (h:=h) (Rv.of k1 z1) (Rv.of k4 z4) n2'
 have kD2:=fun {h} [Le h1 h]=>o6 (h:=h) (Rv.of k2 z2) (Rv.of k3 z3) n1'
 have kD3:=fun {h} [Le h1 h]=>o6 (h:=h) (Rv.of k2 z2) (Rv.of k4 z4) n2'
 rw[e0] at kD
 rw[e1] at kD1
 rw[e2] at kD2
 rw[e3] at kD3
 clear e0 e1 e2 e3 z1 z2 z3 z4 n1' n2' kB k1 k2 k3 k4
 have br:(decide (cL.num < 0)=true∧(0:Nat)=0∧decide (cH.num < 0)=true)∨(decide (cL.num < 0)=false∧decide ((n1:Int) > 0)=true)∨(decide (cL.num < 0)=false∧decide ((n1:Int) > 0)=false∧decide (cH.num < 0)=true):=by
  cases h1:decide (cL.num < 0)<;>cases h2:decide ((n1:Int) > 0)<;>cases h3:decide (cH.num < 0)<;>first |exact .inl ⟨rfl,rfl,rfl⟩ |exact .inr (.inl ⟨rfl,rfl⟩) |exact .inr (.inr ⟨rfl,rfl,rfl⟩) |exact(hn ⟨.inl h1,h3⟩).elim |exact(hn ⟨.inr h2,h3⟩).elim
 clear hn
 generalize decide (cL.num < 0)=sc at*
 generalize decide (cH.num < 0)=sd at*
 obtain⟨sc',hsc⟩:∃b,b=sc:=⟨_,rfl⟩
 obtain⟨sd',hsd⟩:∃b,b=sd:=⟨_,rfl⟩
 have d1:∀i,(decide (cmpQ (T (i+1)) (TL i) < 0)=true∧TL (i+1)=T (i+1))∨(decide (cmpQ (T (i+1)) (TL i) < 0)=false∧TL (i+1)=TL i):=fun i=>by rw[cmpQ_lt0];by_cases w:T (i+1) < TL i;exact .inl ⟨decide_eq_true w,L1 i w⟩;exact .inr ⟨decide_eq_false w,L2 i w⟩
 have d2:∀i,(decide (cmpQ (T (i+1)) (TH i) > 0)=true∧TH (i+1)=T (i+1))∨(decide (cmpQ (T (i+1)) (TH i) > 0)=false∧TH (i+1)=TH i):=fun i=>by rw[cmpQ_gt0];by_cases w:TH i < T (i+1);exact .inl ⟨decide_eq_true w,H1 i w⟩;exact .inr ⟨decide_eq_false w,H2 i w⟩
 clear L1 L2 H1 H2
 rcases br with⟨rfl,hm,rfl⟩ |⟨rfl,hm⟩ |⟨rfl,hm,rfl⟩
 all_goals
  try simp(maxSteps:=999999) (disch:=omega) only[go_sem,ξ,ζ,hm,pA]
  refine caN (by exact kD) ?_;rintro v2 h2 s2 p2;obtain⟨x1,x2,x3,x4,x5,x6,x7,rfl,q2⟩:=p2.ok (zq 0)
  try simp(maxSteps:=999999) (disch:=omega) only[go_sem,ξ,ζ,pA]
  refine lp [(6,.h [] [(9,11)] [2,3] [2,3,0,1,4,5])] (fun x':(Value×Value×Value)×(Value×Value×Value)×Nat=>⟨[(1,.v (.int .i64 p)),(4,.p 1 0),(11,.p 5 0),(12,.p 6 0),(73,.s 7 0 3 3),(74,.v (.int .i64 3)),(75,.v (.int .i64 x'.2.2))],[[],[.bool false,.slice none 0 0,.slice none 0 0,.bool false,.slice none 0 0,.slice none 0 0],[],[],[],[x'.1.1,x'.1.2.1,x'.1.2.2],[x'.2.1.1,x'.2.1.2.1,x'.2.1.2.2],[.bool a1,.slice a2 a3 a4,.slice a5 a6 a7,.bool sd',.slice f3 n3 c3,.slice f4 n4 c4,.bool a8,.slice a9 a10 a11,.slice a12 a13 a14,.bool sc',.slice f1 n1 c1,.slice f2 n2 c2,.bool a8,.slice a9 a10 a11,.slice a12 a13 a14,.bool sd',.slice f3 n3 c3,.slice f4 n4 c4]]⟩) (fun x' h'=>Le h2 h'∧x'.2.2≤3∧Cn h' (.agg #[x'.1.1,x'.1.2.1,x'.1.2.2]) (TL x'.2.2)∧Cn h' (.agg #[x'.2.1.1,x'.2.1.2.1,x'.2.1.2.2]) (TH x'.2.2)) (fun x'=>3 - x'.2.2) ((.bool x1,.slice x2 x3 x4,.slice x5 x6 x7),(.bool x1,.slice x2 x3 x4,.slice x5 x6 x7),0) ?_ ⟨inferInstance,qBh 3,by rw[b0];exact q2,by rw[b1];exact q2⟩ (by kernel_rfl) ?_
  ·try simp(maxSteps:=999999) (disch:=omega) only[go_sem,ξ,ζ,true_or,true_and,hsc,hsd,pA]
   all_goals first |exact rfl |exact⟨rfl,.inr rfl⟩
  rintro⟨⟨l1,l2,l3⟩,⟨g1,g2,g3⟩,i⟩ h5 ⟨le5,hi,hl,hg⟩
  subst hsc
  subst hsd
  dsimp only at hi hl hg ⊢
  obtain⟨l4,l5,l6,l7,l8,l9,l10,e,hl⟩:=hl.sa
  cases e
  obtain⟨g4,g5,g6,g7,g8,g9,g10,e,hg⟩:=hg.sa
  cases e
  have le1:Le h1 h5:=Le.trn inferInstance le5
  rcases(show i=0∨i=1∨i=2∨i=3 by omega) with rfl |rfl |rfl |rfl
  ·try simp(maxSteps:=999999) (disch:=omega) only[go_sem,ξ,ζ,pA]
   refine caN (by exact kD1) ?_;rintro v6 h6 s6 p6;obtain⟨y1,y2,y3,y4,y5,y6,y7,rfl,c6⟩:=p6.ok (zq 1)
   try simp(maxSteps:=999999) (disch:=omega) only[go_sem,ξ,ζ,pA]
   refine caN (by exact gY (Rv.of c6 (zq 1)) (Rv.of (hl.to (h':=h6)) (zL 0))) ?_;rintro v7 h7 s7 rfl
   try simp(maxSteps:=999999) (disch:=omega) only[go_sem,ξ,ζ,pA]
   rcases d1 0 with⟨w1,u1⟩ |⟨w1,u1⟩<;>rcases d2 0 with⟨w2,u2⟩ |⟨w2,u2⟩
   all_goals
    try simp(maxSteps:=999999) (disch:=omega) only[go_sem,ξ,ζ,w1,pA]
    refine caN (by exact gY (Rv.of (c6.to (h':=h7)) (zq 1)) (Rv.of (hg.to (h':=h7)) (zH 0))) ?_;rintro v8 h8 s8 rfl
    try simp(maxSteps:=999999) (disch:=omega) only[go_sem,ξ,ζ,w2,pA]
   ·dsimp only[lpE];refine⟨((.bool y1,.slice y2 y3 y4,.slice y5 y6 y7),(.bool y1,.slice y2 y3 y4,.slice y5 y6 y7),1),?_,⟨Le.trn le5 inferInstance,show 1≤3 by decide,by rw[show TL 1=_ from u1];exact c6.to,by rw[show TH 1=_ from u2];exact c6.to⟩,show 3 - 1 < 3 - 0 by decide⟩
    try simp(maxSteps:=999999) (disch:=omega) only[go_sem,ξ,ζ,true_or,true_and,pA]
    all_goals first |exact rfl |exact⟨rfl,.inr rfl⟩
   ·refine⟨((.bool y1,.slice y2 y3 y4,.slice y5 y6 y7),(.bool g4,.slice g5 g6 g7,.slice g8 g9 g10),1),?_,⟨Le.trn le5 inferInstance,show 1≤3 by decide,by rw[show TL 1=_ from u1];exact c6.to,by rw[show TH 1=_ from u2];exact hg.to⟩,show 3 - 1 < 3 - 0 by decide⟩
    try simp(maxSteps:=999999) (disch:=omega) only[go_sem,ξ,ζ,true_or,true_and,pA]
    all_goals first |exact rfl |exact⟨rfl,.inr rfl⟩
   ·refine⟨((.bool l4,.slice l5 l6 l7,.slice l8 l9 l10),(.bool y1,.slice y2 y3 y4,.slice y5 y6 y7),1),?_,⟨Le.trn le5 inferInstance,show 1≤3 by decide,by rw[show TL 1=_ from u1];exact hl.to,by rw[show TH 1=_ from u2];exact c6.to⟩,show 3 - 1 < 3 - 0 by decide⟩
    try simp(maxSteps:=999999) (disch:=omega) only[go_sem,ξ,ζ,true_or,true_and,pA]
    all_goals first |exact rfl |exact⟨rfl,.inr rfl⟩
   ·refine⟨((.bool l4,.slice l5 l6 l7,.slice l8 l9 l10),(.bool g4,.slice g5 g6 g7,.slice g8 g9 g10),1),?_,⟨Le.trn le5 inferInstance,show 1≤3 by decide,by rw[show TL 1=_ from u1];exact hl.to,by rw[show TH 1=_ from u2];exact hg.to⟩,show 3 - 1 < 3 - 0 by decide⟩
    try simp(maxSteps:=999999) (disch:=omega) only[go_sem,ξ,ζ,true_or,true_and,pA]
    all_goals first |exact rfl |exact⟨rfl,.inr rfl⟩
  ·try simp(maxSteps:=999999) (disch:=omega) only[go_sem,ξ,ζ,pA]
   refine caN (by exact kD2) ?_;rintro v6 h6 s6 p6;obtain⟨y1,y2,y3,y4,y5,y6,y7,rfl,c6⟩:=p6.ok (zq 2)
   try simp(maxSteps:=999999) (disch:=omega) only[go_sem,ξ,ζ,pA]
   refine caN (by exact gY (Rv.of c6 (zq 2)) (Rv.of (hl.to (h':=h6)) (zL 1))) ?_;rintro v7 h7 s7 rfl
   try simp(maxSteps:=999999) (disch:=omega) only[go_sem,ξ,ζ,pA]
   rcases d1 1 with⟨w1,u1⟩ |⟨w1,u1⟩<;>rcases d2 1 with⟨w2,u2⟩ |⟨w2,u2⟩
   all_goals
    try simp(maxSteps:=999999) (disch:=omega) only[go_sem,ξ,ζ,w1,pA]
    refine caN (by exact gY (Rv.of (c6.to (h':=h7)) (zq 2)) (Rv.of (hg.to (h':=h7)) (zH 1))) ?_;rintro v8 h8 s8 rfl
    try simp(maxSteps:=999999) (disch:=omega) only[go_sem,ξ,ζ,w2,pA]
   ·dsimp only[lpE];refine⟨((.bool y1,.slice y2 y3 y4,.slice y5 y6 y7),(.bool y1,.slice y2 y3 y4,.slice y5 y6 y7),2),?_,⟨Le.trn le5 inferInstance,show 2≤3 by decide,by rw[show TL 2=_ from u1];exact c6.to,by rw[show TH 2=_ from u2];exact c6.to⟩,show 3 - 2 < 3 - 1 by decide⟩
    try simp(maxSteps:=999999) (disch:=omega) only[go_sem,ξ,ζ,true_or,true_and,pA]
    all_goals first |exact rfl |exact⟨rfl,.inr rfl⟩
   ·refine⟨((.bool y1,.slice y2 y3 y4,.slice y5 y6 y7),(.bool g4,.slice g5 g6 g7,.slice g8 g9 g10),2),?_,⟨Le.trn le5 inferInstance,show 2≤3 by decide,by rw[show TL 2=_ from u1];exact c6.to,by rw[show TH 2=_ from u2];exact hg.to⟩,show 3 - 2 < 3 - 1 by decide⟩
    try simp(maxSteps:=999999) (disch:=omega) only[go_sem,ξ,ζ,true_or,true_and,pA]
    all_goals first |exact rfl |exact⟨rfl,.inr rfl⟩
   ·refine⟨((.bool l4,.slice l5 l6 l7,.slice l8 l9 l10),(.bool y1,.slice y2 y3 y4,.slice y5 y6 y7),2),?_,⟨Le.trn le5 inferInstance,show 2≤3 by decide,by rw[show TL 2=_ from u1];exact hl.to,by rw[show TH 2=_ from u2];exact c6.to⟩,show 3 - 2 < 3 - 1 by decide⟩
    try simp(maxSteps:=999999) (disch:=omega) only[go_sem,ξ,ζ,true_or,true_and,pA]
    all_goals first |exact rfl |exact⟨rfl,.inr rfl⟩
   ·refine⟨((.bool l4,.slice l5 l6 l7,.slice l8 l9 l10),(.bool g4,.slice g5 g6 g7,.slice g8 g9 g10),2),?_,⟨Le.trn le5 inferInstance,show 2≤3 by decide,by rw[show TL 2=_ from u1];exact hl.to,by rw[show TH 2=_ from u2];exact hg.to⟩,show 3 - 2 < 3 - 1 by decide⟩
    try simp(maxSteps:=999999) (disch:=omega) only[go_sem,ξ,ζ,true_or,true_and,pA]
    all_goals first |exact rfl |exact⟨rfl,.inr rfl⟩
  ·try simp(maxSteps:=999999) (disch:=omega) only[go_sem,ξ,ζ,pA]
   refine caN (by exact kD3) ?_;rintro v6 h6 s6 p6;obtain⟨y1,y2,y3,y4,y5,y6,y7,rfl,c6⟩:=p6.ok (zq 3)
   try simp(maxSteps:=999999) (disch:=omega) only[go_sem,ξ,ζ,pA]
   refine caN (by exact gY (Rv.of c6 (zq 3)) (Rv.of (hl.to (h':=h6)) (zL 2))) ?_;rintro v7 h7 s7 rfl
   try simp(maxSteps:=999999) (disch:=omega) only[go_sem,ξ,ζ,pA]
   rcases d1 2 with⟨w1,u1⟩ |⟨w1,u1⟩<;>rcases d2 2 with⟨w2,u2⟩ |⟨w2,u2⟩
   all_goals
    try simp(maxSteps:=999999) (disch:=omega) only[go_sem,ξ,ζ,w1,pA]
    refine caN (by exact gY (Rv.of (c6.to (h':=h7)) (zq 3)) (Rv.of (hg.to (h':=h7)) (zH 2))) ?_;rintro v8 h8 s8 rfl
    try simp(maxSteps:=999999) (disch:=omega) only[go_sem,ξ,ζ,w2,pA]
   ·dsimp only[lpE];refine⟨((.bool y1,.slice y2 y3 y4,.slice y5 y6 y7),(.bool y1,.slice y2 y3 y4,.slice y5 y6 y7),3),?_,⟨Le.trn le5 inferInstance,show 3≤3 by decide,by rw[show TL 3=_ from u1];exact c6.to,by rw[show TH 3=_ from u2];exact c6.to⟩,show 3 - 3 < 3 - 2 by decide⟩
    try simp(maxSteps:=999999) (disch:=omega) only[go_sem,ξ,ζ,true_or,true_and,pA]
    all_goals first |exact rfl |exact⟨rfl,.inr rfl⟩
   ·refine⟨((.bool y1,.slice y2 y3 y4,.slice y5 y6 y7),(.bool g4,.slice g5 g6 g7,.slice g8 g9 g10),3),?_,⟨Le.trn le5 inferInstance,show 3≤3 by decide,by rw[show TL 3=_ from u1];exact c6.to,by rw[show TH 3=_ from u2];exact hg.to⟩,show 3 - 3 < 3 - 2 by decide⟩
    try simp(maxSteps:=999999) (disch:=omega) only[go_sem,ξ,ζ,true_or,true_and,pA]
    all_goals first |exact rfl |exact⟨rfl,.inr rfl⟩
   ·refine⟨((.bool l4,.slice l5 l6 l7,.slice l8 l9 l10),(.bool y1,.slice y2 y3 y4,.slice y5 y6 y7),3),?_,⟨Le.trn le5 inferInstance,show 3≤3 by decide,by rw[show TL 3=_ from u1];exact hl.to,by rw[show TH 3=_ from u2];exact c6.to⟩,show 3 - 3 < 3 - 2 by decide⟩
    try simp(maxSteps:=999999) (disch:=omega) only[go_sem,ξ,ζ,true_or,true_and,pA]
    all_goals first |exact rfl |exact⟨rfl,.inr rfl⟩
   ·refine⟨((.bool l4,.slice l5 l6 l7,.slice l8 l9 l10),(.bool g4,.slice g5 g6 g7,.slice g8 g9 g10),3),?_,⟨Le.trn le5 inferInstance,show 3≤3 by decide,by rw[show TL 3=_ from u1];exact hl.to,by rw[show TH 3=_ from u2];exact hg.to⟩,show 3 - 3 < 3 - 2 by decide⟩
    try simp(maxSteps:=999999) (disch:=omega) only[go_sem,ξ,ζ,true_or,true_and,pA]
    all_goals first |exact rfl |exact⟨rfl,.inr rfl⟩
  ·try simp(maxSteps:=999999) (disch:=omega) only[go_sem,ξ,ζ,pA]
   refine caN (by exact jZ (p:=p) hl hg (by omega) (zL 3) (zH 3) y5 y6) ?_;rintro v9 h9 s9 ⟨_,_,_,_,_,_,_,_,_,_,_,_,_,_,rfl,r1,r2⟩
   try simp(maxSteps:=999999) (disch:=omega) only[go_sem,ξ,ζ,pA]
   exact⟨_,_,_,_,_,_,_,_,_,_,_,_,_,_,rfl,r1,r2⟩
def tanLo (x:Rat) (p:Nat):Rat:=gdown (tqL x (p+64) 3) p
def tanHi (x:Rat) (p:Nat):Rat:=gup (tqH x (p+64) 3) p
def pole (x:Rat) (p:Nat):Prop:=coL x (p+64)≤0∧0≤coH x (p+64)
instance (x:Rat) (p:Nat):Decidable (pole x p):=inferInstanceAs (Decidable (_∧_))
def serL (fn:Int) (x:Rat) (p:Nat):Rat:=if fn=1 then expLo x p else if fn=2 then lnLo x.num.natAbs x.den p else if fn=3 then gdown (siL x (p+64)) p else if fn=4 then gdown (coL x (p+64)) p else if fn=5 then tanLo x p else if fn=6 then fg x p else if fn=7 then acLo x p else atLo x p
def serH (fn:Int) (x:Rat) (p:Nat):Rat:=if fn=1 then expHi x p else if fn=2 then lnHi x.num.natAbs x.den p else if fn=3 then gup (siH x (p+64)) p else if fn=4 then gup (coH x (p+64)) p else if fn=5 then tanHi x p else if fn=6 then dM x p else if fn=7 then acHi x p else atHi x p
def elE (fn:Int) (x:Rat) (p:Int):Int:=if eErr fn x p≠0 then eErr fn x p else if exB fn x=true then 0 else if fn=5∧pole x p.toNat then 20 else 0
def elL (fn:Int) (x:Rat) (p:Int):Rat:=if elE fn x p≠0 then 0 else if exB fn x=true then exV fn x else serL fn x p.toNat
def elH (fn:Int) (x:Rat) (p:Int):Rat:=if elE fn x p≠0 then 0 else if exB fn x=true then exV fn x else serH fn x p.toNat
theorem dw {fn:Int} {x:Rat} {p:Int} (he:eErr fn x p=0):(1≤fn∧fn≤8)∧0≤p∧p≤128∧defB fn x=true∧sz x≤1024∧(fn=1→¬x.den*64 < x.num.natAbs)∧(fn=3∨fn=4∨fn=5→¬x.den*4294967296 < x.num.natAbs):=by
 by_cases h:¬(1≤fn∧fn≤8)∨p < 0∨128 < p
 ·rw[xM h] at he;cases he
 cases hd:defB fn x with
 |false=>rw[eErr_5 h hd] at he;cases he
 | true=>
  by_cases hb:1024 < sz x∨(fn=1∧x.den*64 < x.num.natAbs)∨((fn=3∨fn=4∨fn=5)∧x.den*4294967296 < x.num.natAbs)
  ·rw[vX h hd hb] at he;cases he
  ·refine⟨by omega,by omega,by omega,rfl,by omega,fun k c=>hb (.inr (.inl ⟨k,c⟩)),fun k c=>hb (.inr (.inr ⟨k,c⟩))⟩
theorem cM {h0 h:PH} [Le h0 h] {v:Value} {x:Rat} {fn p:Int} {g:FuncId} (hx:Rv h0 v x)
  (hg:eErr fn x p=0→exB fn x=false→∀{h0 h:PH} {a:Value} [Le h0 h],Cn h0 a x→Spec mach g #[a,.int .i64 (p.toNat:Nat)] h (fun r h'=>Ber h' r (elE fn x p) (if elE fn x p≠0 then 0 else serL fn x p.toNat) (if elE fn x p≠0 then 0 else serH fn x p.toNat)) NP):
  Spec mach 40 #[.int .i64 fn,v,.int .i64 p,.func (.func g) #[] #[]] h (fun r h'=>Ber h' r (elE fn x p) (elL fn x p) (elH fn x p)) NP:=by
 by_cases he:eErr fn x p=0
 ·have hp:((p.toNat:Nat):Int)=p:=by have:=dw he;omega
  cases hb:exB fn x with
  | true=>
   have e1:elE fn x p=0:=by unfold elE;rw[if_neg (by simp[he]),if_pos hb]
   have e2:elL fn x p=exV fn x:=by unfold elL;rw[if_neg (by simp[e1]),if_pos hb]
   have e3:elH fn x p=exV fn x:=by unfold elH;rw[if_neg (by simp[e1]),if_pos hb]
   rw[e1,e2,e3]
   exact Af hx he hb
  | false=>
   have e2:elL fn x p=if elE fn x p≠0 then 0 else serL fn x p.toNat:=by unfold elL;split;rfl;rw[hb,if_neg (by decide)]
   have e3:elH fn x p=if elE fn x p≠0 then 0 else serH fn x p.toNat:=by unfold elH;split;rfl;rw[hb,if_neg (by decide)]
   rw[e2,e3]
   have hg:=@hg he hb
   rw[hp] at hg
   exact Er hx he hb hg
 ·have e1:elE fn x p=eErr fn x p:=by unfold elE;rw[if_pos he]
  have e2:elL fn x p=0:=by unfold elL;rw[if_pos (by rw[e1];exact he)]
  have e3:elH fn x p=0:=by unfold elH;rw[if_pos (by rw[e1];exact he)]
  rw[e1,e2,e3]
  exact Eo hx he
theorem elE_0 {fn:Int} {x:Rat} {p:Int} (he:eErr fn x p=0) (hb:exB fn x=false) (h5:fn≠5):elE fn x p=0:=by
 unfold elE
 rw[if_neg (by simp[he]),hb,if_neg (by decide),if_neg (fun k=>h5 k.1)]
theorem ser1 {h0 h:PH} {a:Value} {x:Rat} {p:Int} (he:eErr 1 x p=0) (hb:exB 1 x=false) [Le h0 h] (c:Cn h0 a x):Spec mach 31 #[a,.int .i64 (p.toNat:Nat)] h (fun r h'=>Ber h' r (elE 1 x p) (if elE 1 x p≠0 then 0 else serL 1 x p.toNat) (if elE 1 x p≠0 then 0 else serH 1 x p.toNat)) NP:=by
 obtain⟨_,p0,p1,hd,bx,k1,_⟩:=dw he
 rw[elE_0 he hb (by decide)]
 exact yZ c bx (k1 rfl) (by omega)
theorem ser2 {h0 h:PH} {a:Value} {x:Rat} {p:Int} (he:eErr 2 x p=0) (hb:exB 2 x=false) [Le h0 h] (c:Cn h0 a x):Spec mach 32 #[a,.int .i64 (p.toNat:Nat)] h (fun r h'=>Ber h' r (elE 2 x p) (if elE 2 x p≠0 then 0 else serL 2 x p.toNat) (if elE 2 x p≠0 then 0 else serH 2 x p.toNat)) NP:=by
 obtain⟨_,p0,p1,hd,bx,_,_⟩:=dw he
 rw[elE_0 he hb (by decide)]
 have hx:0 < x:=by simpa[defB] using hd
 refine Iz c bx (fun e=>?_) (by omega)
 have:=Rat.num_eq_zero.1 (Int.natAbs_eq_zero.1 e)
 rw[this] at hx
 exact absurd hx (by decide)
theorem ser3 {h0 h:PH} {a:Value} {x:Rat} {p:Int} (he:eErr 3 x p=0) (hb:exB 3 x=false) [Le h0 h] (c:Cn h0 a x):Spec mach 33 #[a,.int .i64 (p.toNat:Nat)] h (fun r h'=>Ber h' r (elE 3 x p) (if elE 3 x p≠0 then 0 else serL 3 x p.toNat) (if elE 3 x p≠0 then 0 else serH 3 x p.toNat)) NP:=by
 obtain⟨_,p0,p1,hd,bx,_,k⟩:=dw he
 rw[elE_0 he hb (by decide)]
 exact IB c bx (k (.inl rfl)) (by omega)
theorem ser4 {h0 h:PH} {a:Value} {x:Rat} {p:Int} (he:eErr 4 x p=0) (hb:exB 4 x=false) [Le h0 h] (c:Cn h0 a x):Spec mach 34 #[a,.int .i64 (p.toNat:Nat)] h (fun r h'=>Ber h' r (elE 4 x p) (if elE 4 x p≠0 then 0 else serL 4 x p.toNat) (if elE 4 x p≠0 then 0 else serH 4 x p.toNat)) NP:=by
 obtain⟨_,p0,p1,hd,bx,_,k⟩:=dw he
 rw[elE_0 he hb (by decide)]
 exact Iy c bx (k (.inr (.inl rfl))) (by omega)
theorem ser5 {h0 h:PH} {a:Value} {x:Rat} {p:Int} (he:eErr 5 x p=0) (hb:exB 5 x=false) [Le h0 h] (c:Cn h0 a x):Spec mach 35 #[a,.int .i64 (p.toNat:Nat)] h (fun r h'=>Ber h' r (elE 5 x p) (if elE 5 x p≠0 then 0 else serL 5 x p.toNat) (if elE 5 x p≠0 then 0 else serH 5 x p.toNat)) NP:=by
 obtain⟨_,p0,p1,hd,bx,_,k⟩:=dw he
 by_cases hq:pole x p.toNat
 ·have e:elE 5 x p=20:=by unfold elE;rw[if_neg (by simp[he]),hb,if_neg (by decide),if_pos ⟨rfl,hq⟩]
  rw[e,if_pos (by decide)]
  exact ETan_no c bx (k (.inr (.inr rfl))) (by omega) hq
 ·have e:elE 5 x p=0:=by unfold elE;rw[if_neg (by simp[he]),hb,if_neg (by decide),if_neg (fun k=>hq k.2)]
  rw[e]
  exact ETan_ok c bx (k (.inr (.inr rfl))) (by omega) hq
theorem abs_1 {x:Rat} (hd:decide (x.num.natAbs≤x.den)=true):x.num.natAbs≤x.den:=of_decide_eq_true hd
theorem ser6 {h0 h:PH} {a:Value} {x:Rat} {p:Int} (he:eErr 6 x p=0) (hb:exB 6 x=false) [Le h0 h] (c:Cn h0 a x):Spec mach 36 #[a,.int .i64 (p.toNat:Nat)] h (fun r h'=>Ber h' r (elE 6 x p) (if elE 6 x p≠0 then 0 else serL 6 x p.toNat) (if elE 6 x p≠0 then 0 else serH 6 x p.toNat)) NP:=by
 obtain⟨_,p0,p1,hd,bx,_,_⟩:=dw he
 rw[elE_0 he hb (by decide)]
 exact Es c bx (abs_1 hd) (by omega)
theorem ser7 {h0 h:PH} {a:Value} {x:Rat} {p:Int} (he:eErr 7 x p=0) (hb:exB 7 x=false) [Le h0 h] (c:Cn h0 a x):Spec mach 37 #[a,.int .i64 (p.toNat:Nat)] h (fun r h'=>Ber h' r (elE 7 x p) (if elE 7 x p≠0 then 0 else serL 7 x p.toNat) (if elE 7 x p≠0 then 0 else serH 7 x p.toNat)) NP:=by
 obtain⟨_,p0,p1,hd,bx,_,_⟩:=dw he
 rw[elE_0 he hb (by decide)]
 exact Em c bx (abs_1 hd) (by omega)
theorem ser8 {h0 h:PH} {a:Value} {x:Rat} {p:Int} (he:eErr 8 x p=0) (hb:exB 8 x=false) [Le h0 h] (c:Cn h0 a x):Spec mach 38 #[a,.int .i64 (p.toNat:Nat)] h (fun r h'=>Ber h' r (elE 8 x p) (if elE 8 x p≠0 then 0 else serL 8 x p.toNat) (if elE 8 x p≠0 then 0 else serH 8 x p.toNat)) NP:=by
 obtain⟨_,p0,p1,hd,bx,_,_⟩:=dw he
 rw[elE_0 he hb (by decide)]
 exact Et c bx (by omega)
theorem Ber.sp {h:PH} {r:Value} {e:Int} {x y:Rat} (k:Ber h r e x y):∃b1 a1 m1 c1 a2 m2 c2 b2 a3 m3 c3 a4 m4 c4,r=.tuple #[.agg #[.bool b1,.slice a1 m1 c1,.slice a2 m2 c2,.bool b2,.slice a3 m3 c3,.slice a4 m4 c4],.int .i64 e]∧Ber h (.tuple #[.agg #[.bool b1,.slice a1 m1 c1,.slice a2 m2 c2,.bool b2,.slice a3 m3 c3,.slice a4 m4 c4],.int .i64 e]) e x y:=by
 obtain⟨b1,a1,m1,c1,a2,m2,c2,b2,a3,m3,c3,a4,m4,c4,rfl,k1,k2⟩:=k
 exact⟨b1,a1,m1,c1,a2,m2,c2,b2,a3,m3,c3,a4,m4,c4,rfl,_,_,_,_,_,_,_,_,_,_,_,_,_,_,rfl,k1,k2⟩
theorem elE_arg {fn:Int} {x:Rat} {p:Int} (hf:¬(1≤fn∧fn≤8)):elE fn x p=2∧elL fn x p=0∧elH fn x p=0:=by
 have e:elE fn x p=2:=by unfold elE;rw[xM (.inl hf),if_pos (by decide)]
 refine⟨e,?_,?_⟩
 ·unfold elL;rw[e,if_pos (by decide)]
 ·unfold elH;rw[e,if_pos (by decide)]
theorem n7 {h0 h:PH} [Le h0 h] {v:Value} {x:Rat} {p:Int} (hx:Rv h0 v x):Spec mach 10 #[.int .i64 1,v,.int .i64 p] h (fun r h'=>Ber h' r (elE 1 x p) (elL 1 x p) (elH 1 x p)) NP:=by
 have kA:=fun {h} [Le h0 h]=>cM (h:=h) (fn:=1) (p:=p) (g:=31) hx (fun he hb {_ _ _} _ c=>ser1 he hb c)
 obtain⟨_,_,_,_,_,_,_,rfl,_⟩:=hx.sa
 refine Spec.go [] Tryz.func10 rfl rfl (by kernel_rfl) fun C _=>?_
 try simp(disch:=omega) only[go_sem,ξ,ζ]
 change op2 (some (Value.func (.func 31) #[] #[])) _
 try simp(disch:=omega) only[go_sem,ξ,ζ]
 refine caN (by exact kA) ?_;rintro v1 h1 s1 q1;obtain⟨_,_,_,_,_,_,_,_,_,_,_,_,_,_,rfl,q1⟩:=q1.sp
 try simp(disch:=omega) only[go_sem,ξ,ζ]
 exact q1
theorem pE {h0 h:PH} [Le h0 h] {v:Value} {x:Rat} {p:Int} (hx:Rv h0 v x):Spec mach 10 #[.int .i64 2,v,.int .i64 p] h (fun r h'=>Ber h' r (elE 2 x p) (elL 2 x p) (elH 2 x p)) NP:=by
 have kA:=fun {h} [Le h0 h]=>cM (h:=h) (fn:=2) (p:=p) (g:=32) hx (fun he hb {_ _ _} _ c=>ser2 he hb c)
 obtain⟨_,_,_,_,_,_,_,rfl,_⟩:=hx.sa
 refine Spec.go [] Tryz.func10 rfl rfl (by kernel_rfl) fun C _=>?_
 try simp(disch:=omega) only[go_sem,ξ,ζ]
 change op2 (some (Value.func (.func 32) #[] #[])) _
 try simp(disch:=omega) only[go_sem,ξ,ζ]
 refine caN (by exact kA) ?_;rintro v1 h1 s1 q1;obtain⟨_,_,_,_,_,_,_,_,_,_,_,_,_,_,rfl,q1⟩:=q1.sp
 try simp(disch:=omega) only[go_sem,ξ,ζ]
 exact q1
theorem n8 {h0 h:PH} [Le h0 h] {v:Value} {x:Rat} {p:Int} (hx:Rv h0 v x):Spec mach 10 #[.int .i64 3,v,.int .i64 p] h (fun r h'=>Ber h' r (elE 3 x p) (elL 3 x p) (elH 3 x p)) NP:=by
 have kA:=fun {h} [Le h0 h]=>cM (h:=h) (fn:=3) (p:=p) (g:=33) hx (fun he hb {_ _ _} _ c=>ser3 he hb c)
 obtain⟨_,_,_,_,_,_,_,rfl,_⟩:=hx.sa
 refine Spec.go [] Tryz.func10 rfl rfl (by kernel_rfl) fun C _=>?_
 try simp(disch:=omega) only[go_sem,ξ,ζ]
 change op2 (some (Value.func (.func 33) #[] #[])) _
 try simp(disch:=omega) only[go_sem,ξ,ζ]
 refine caN (by exact kA) ?_;rintro v1 h1 s1 q1;obtain⟨_,_,_,_,_,_,_,_,_,_,_,_,_,_,rfl,q1⟩:=q1.sp
 try simp(disch:=omega) only[go_sem,ξ,ζ]
 exact q1
theorem wL {h0 h:PH} [Le h0 h] {v:Value} {x:Rat} {p:Int} (hx:Rv h0 v x):Spec mach 10 #[.int .i64 4,v,.int .i64 p] h (fun r h'=>Ber h' r (elE 4 x p) (elL 4 x p) (elH 4 x p)) NP:=by
 have kA:=fun {h} [Le h0 h]=>cM (h:=h) (fn:=4) (p:=p) (g:=34) hx (fun he hb {_ _ _} _ c=>ser4 he hb c)
 obtain⟨_,_,_,_,_,_,_,rfl,_⟩:=hx.sa
 refine Spec.go [] Tryz.func10 rfl rfl (by kernel_rfl) fun C _=>?_
 try simp(disch:=omega) only[go_sem,ξ,ζ]
 change op2 (some (Value.func (.func 34) #[] #[])) _
 try simp(disch:=omega) only[go_sem,ξ,ζ]
 refine caN (by exact kA) ?_;rintro v1 h1 s1 q1;obtain⟨_,_,_,_,_,_,_,_,_,_,_,_,_,_,rfl,q1⟩:=q1.sp
 try simp(disch:=omega) only[go_sem,ξ,ζ]
 exact q1
theorem wM {h0 h:PH} [Le h0 h] {v:Value} {x:Rat} {p:Int} (hx:Rv h0 v x):Spec mach 10 #[.int .i64 5,v,.int .i64 p] h (fun r h'=>Ber h' r (elE 5 x p) (elL 5 x p) (elH 5 x p)) NP:=by
 have kA:=fun {h} [Le h0 h]=>cM (h:=h) (fn:=5) (p:=p) (g:=35) hx (fun he hb {_ _ _} _ c=>ser5 he hb c)
 obtain⟨_,_,_,_,_,_,_,rfl,_⟩:=hx.sa
 refine Spec.go [] Tryz.func10 rfl rfl (by kernel_rfl) fun C _=>?_
 try simp(disch:=omega) only[go_sem,ξ,ζ]
 change op2 (some (Value.func (.func 35) #[] #[])) _
 try simp(disch:=omega) only[go_sem,ξ,ζ]
 refine caN (by exact kA) ?_;rintro v1 h1 s1 q1;obtain⟨_,_,_,_,_,_,_,_,_,_,_,_,_,_,rfl,q1⟩:=q1.sp
 try simp(disch:=omega) only[go_sem,ξ,ζ]
 exact q1
theorem sE {h0 h:PH} [Le h0 h] {v:Value} {x:Rat} {p:Int} (hx:Rv h0 v x):Spec mach 10 #[.int .i64 6,v,.int .i64 p] h (fun r h'=>Ber h' r (elE 6 x p) (elL 6 x p) (elH 6 x p)) NP:=by
 have kA:=fun {h} [Le h0 h]=>cM (h:=h) (fn:=6) (p:=p) (g:=36) hx (fun he hb {_ _ _} _ c=>ser6 he hb c)
 obtain⟨_,_,_,_,_,_,_,rfl,_⟩:=hx.sa
 refine Spec.go [] Tryz.func10 rfl rfl (by kernel_rfl) fun C _=>?_
 try simp(disch:=omega) only[go_sem,ξ,ζ]
 change op2 (some (Value.func (.func 36) #[] #[])) _
 try simp(disch:=omega) only[go_sem,ξ,ζ]
 refine caN (by exact kA) ?_;rintro v1 h1 s1 q1;obtain⟨_,_,_,_,_,_,_,_,_,_,_,_,_,_,rfl,q1⟩:=q1.sp
 try simp(disch:=omega) only[go_sem,ξ,ζ]
 exact q1
theorem Cc {h0 h:PH} [Le h0 h] {v:Value} {x:Rat} {p:Int} (hx:Rv h0 v x):Spec mach 10 #[.int .i64 7,v,.int .i64 p] h (fun r h'=>Ber h' r (elE 7 x p) (elL 7 x p) (elH 7 x p)) NP:=by
 have kA:=fun {h} [Le h0 h]=>cM (h:=h) (fn:=7) (p:=p) (g:=37) hx (fun he hb {_ _ _} _ c=>ser7 he hb c)
 obtain⟨_,_,_,_,_,_,_,rfl,_⟩:=hx.sa
 refine Spec.go [] Tryz.func10 rfl rfl (by kernel_rfl) fun C _=>?_
 try simp(disch:=omega) only[go_sem,ξ,ζ]
 change op2 (some (Value.func (.func 37) #[] #[])) _
 try simp(disch:=omega) only[go_sem,ξ,ζ]
 refine caN (by exact kA) ?_;rintro v1 h1 s1 q1;obtain⟨_,_,_,_,_,_,_,_,_,_,_,_,_,_,rfl,q1⟩:=q1.sp
 try simp(disch:=omega) only[go_sem,ξ,ζ]
 exact q1
theorem pF {h0 h:PH} [Le h0 h] {v:Value} {x:Rat} {p:Int} (hx:Rv h0 v x):Spec mach 10 #[.int .i64 8,v,.int .i64 p] h (fun r h'=>Ber h' r (elE 8 x p) (elL 8 x p) (elH 8 x p)) NP:=by
 have kA:=fun {h} [Le h0 h]=>cM (h:=h) (fn:=8) (p:=p) (g:=38) hx (fun he hb {_ _ _} _ c=>ser8 he hb c)
 obtain⟨_,_,_,_,_,_,_,rfl,_⟩:=hx.sa
 refine Spec.go [] Tryz.func10 rfl rfl (by kernel_rfl) fun C _=>?_
 try simp(disch:=omega) only[go_sem,ξ,ζ]
 change op2 (some (Value.func (.func 38) #[] #[])) _
 try simp(disch:=omega) only[go_sem,ξ,ζ]
 refine caN (by exact kA) ?_;rintro v1 h1 s1 q1;obtain⟨_,_,_,_,_,_,_,_,_,_,_,_,_,_,rfl,q1⟩:=q1.sp
 try simp(disch:=omega) only[go_sem,ξ,ζ]
 exact q1
theorem Iu {h0 h:PH} [Le h0 h] {v:Value} {x:Rat} {fn p:Int} (hx:Rv h0 v x) (hf:¬(1≤fn∧fn≤8)):Spec mach 10 #[.int .i64 fn,v,.int .i64 p] h (fun r h'=>Ber h' r (elE fn x p) (elL fn x p) (elH fn x p)) NP:=by
 obtain⟨e1,e2,e3⟩:=elE_arg (x:=x) (p:=p) hf
 rw[e1,e2,e3]
 have kK:=fun {h} [Le h0 h]=>oO (h:=h) hx hf
 obtain⟨_,_,_,_,_,_,_,rfl,_⟩:=hx.sa
 rcases Int.lt_or_le fn 1 with f1 |f1
 ·refine Spec.go [] Tryz.func10 rfl rfl (by kernel_rfl) fun C _=>?_
  try simp(disch:=omega) only[go_sem,ξ,ζ]
  refine caN (by exact kK) ?_;rintro v1 h1 s1 rfl
  try simp(disch:=omega) only[go_sem,ξ,ζ]
  exact Ber.no _ _
 ·have f8:fn > 8:=by omega
  refine Spec.go [] Tryz.func10 rfl rfl (by kernel_rfl) fun C _=>?_
  try simp(disch:=omega) only[go_sem,ξ,ζ]
  refine caN (by exact kK) ?_;rintro v1 h1 s1 rfl
  try simp(disch:=omega) only[go_sem,ξ,ζ]
  exact Ber.no _ _
theorem rD {h0 h:PH} [Le h0 h] {v:Value} {x:Rat} {fn p:Int} (f3:fn≠3) (f4:fn≠4) (f5:fn≠5) (hx:Rv h0 v x):Spec mach 10 #[.int .i64 fn,v,.int .i64 p] h (fun r h'=>Ber h' r (elE fn x p) (elL fn x p) (elH fn x p)) NP:=by
 by_cases hf:1≤fn∧fn≤8
 ·have hc:fn=1∨fn=2∨fn=6∨fn=7∨fn=8:=by omega
  rcases hc with rfl |rfl |rfl |rfl |rfl
  ·exact n7 hx
  ·exact pE hx
  ·exact sE hx
  ·exact Cc hx
  ·exact pF hx
 ·exact Iu hx hf
theorem uh {h0 h:PH} [Le h0 h] {v:Value} {x:Rat} {fn p:Int} (hf:fn=3∨fn=4∨fn=5∨fn=6∨fn=8) (hx:Rv h0 v x):Spec mach 10 #[.int .i64 fn,v,.int .i64 p] h (fun r h'=>Ber h' r (elE fn x p) (elL fn x p) (elH fn x p)) NP:=by
 rcases hf with rfl |rfl |rfl |rfl |rfl
 ·exact n8 hx
 ·exact wL hx
 ·exact wM hx
 ·exact sE hx
 ·exact pF hx
theorem pH {h0 h:PH} [Le h0 h] {v:Value} {x:Rat} {fn p:Int} (hx:Rv h0 v x):Spec mach 10 #[.int .i64 fn,v,.int .i64 p] h (fun r h'=>Ber h' r (elE fn x p) (elL fn x p) (elH fn x p)) NP:=by
 by_cases hf:fn=3∨fn=4∨fn=5
 ·exact uh (by omega) hx
 ·exact rD (by omega) (by omega) (by omega) hx
theorem aN (x:Rat):(-x).num= -x.num∧(-x).den=x.den∧(-x).num.natAbs=x.num.natAbs:=⟨Rat.neg_num x,Rat.neg_den x,by rw[Rat.neg_num,Int.natAbs_neg]⟩
theorem Bt {x:Rat} (h:x≠0):decide ((-x).num < 0)=!decide (x.num < 0):=by
 have:x.num≠0:=fun e=>h (Rat.num_eq_zero.1 e)
 rw[(aN x).1]
 by_cases c:x.num < 0
 ·rw[decide_eq_true c,decide_eq_false (by omega)];rfl
 ·rw[decide_eq_false c,decide_eq_true (by omega)];rfl
theorem wE (b:Bool) (n d:Nat):sgn (!b) n d= -sgn b n d:=by
 cases b
 ·rw[yC (!false)];simp
 ·rw[yC true];simp
theorem jv (x:Rat) (w:Nat):glo (-x) w=glo x w∧ghi (-x) w=ghi x w:=by
 unfold glo ghi
 rw[(aN x).2.1,(aN x).2.2]
 exact⟨rfl,rfl⟩
theorem bk_opp (b:Bool) (n m k p:Nat):bkL (!b) n m k p= -bkH b n m k p∧bkH (!b) n m k p= -bkL b n m k p:=by
 unfold bkL bkH
 cases b<;>simp[wE,←wE]
theorem xD {x:Rat} {p:Nat} (h:x≠0):atLo (-x) p= -atHi x p∧atHi (-x) p= -atLo x p:=by
 have e1:invQ (-x)=invQ x:=by unfold invQ;rw[(aN x).2.1,(aN x).2.2]
 have e2:atA (-x) (p+32)=atA x (p+32):=by unfold atA;rw[(aN x).2.1,(aN x).2.2,e1,(jv x _).1,(jv x _).2]
 have e3:atB (-x) (p+32)=atB x (p+32):=by unfold atB;rw[(aN x).2.1,(aN x).2.2,e1,(jv x _).1,(jv x _).2]
 have e4:atK (-x)=atK x:=by unfold atK;rw[(aN x).2.1,(aN x).2.2]
 unfold atLo atHi
 rw[e2,e3,e4,Bt h]
 exact bk_opp _ _ _ _ _
theorem ux {x:Rat} {p:Nat} (h:x≠0):fg (-x) p= -dM x p∧dM (-x) p= -fg x p:=by
 have e1:abQ (-x)=abQ x:=by unfold abQ;rw[(aN x).2.1,(aN x).2.2]
 have e2:∀u w,asH u (-x) w=asH u x w:=fun u w=>by unfold asH asG asR;rw[e1]
 have e3:asL (-x) (p+32)=asL x (p+32):=by unfold asL;rw[e2,e2]
 have e4:asU (-x) (p+32)=asU x (p+32):=by unfold asU;rw[e2,e2]
 unfold fg dM
 rw[e3,e4,Bt h]
 exact bk_opp _ _ _ _ _
theorem mD {neg:Bool} {n p k:Nat} (h:bl n≤k) (hp:p+1≤k):sz (sgn neg n (2^p))≤k:=by
 have h1:=dg neg n (am p)
 have h2:=bC p
 omega
theorem bk_sz {neg:Bool} {a b k p m:Nat} (ha:bl a≤m) (hb:bl b≤m) (hp:p≤m):sz (bkL neg a b k p)≤m+1∧sz (bkH neg a b k p)≤m+1:=by
 have h1:=aZ a (2^k)
 have h2:=fy b (am k)
 unfold bkL bkH
 cases neg
 ·exact⟨mD (by omega) (by omega),mD (by omega) (by omega)⟩
 ·exact⟨mD (by omega) (by omega),mD (by omega) (by omega)⟩
theorem exp_sz {x:Rat} {p:Nat} (hb:¬x.den*64 < x.num.natAbs) (hp:p≤128):sz (expLo x p)≤2048∧sz (expHi x p)≤2048:=by
 obtain⟨f1,f2,f3,f4⟩:=AT (p:=p) hb
 unfold expLo expHi
 generalize expL x p=A at*
 generalize expH x p=B at*
 have u:=bC (p+112+p)
 have h1:=aZ (2^(p+112+p)) B
 have h2:=fy (2^(p+112+p)) f3
 have h3:=aZ A (2^112)
 have h4:=fy B (am 112)
 generalize 2^(p+112+p)=U at*
 generalize U / B=a1 at*
 generalize cdiv U A=a2 at*
 generalize A / 2^112=a3 at*
 generalize cdiv B (2^112)=a4 at*
 constructor<;>split<;>exact mD (by omega) (by omega)
theorem ln_sz {n d p:Nat} (hn:n≠0) (b1:bl n≤1024) (b2:bl d≤1024) (hp:p≤128):sz (lnLo n d p)≤2048∧sz (lnHi n d p)≤2048:=by
 obtain⟨a1,a2,_,_⟩:=Bj b1 b2
 obtain⟨l1,l2⟩:=Bl (n:=n) (d:=d) (w:=p+32) hn
 obtain⟨l3,l4⟩:=Bi (p+32)
 obtain⟨l5,l6⟩:=wh l1 l2
 obtain⟨l7,l8⟩:=wh l3 l4
 have c1:bl (lgmL n d (p+32))≤p+32+8:=lO l5
 have c2:bl (lgmH n d (p+32))≤p+32+8:=lO l6
 have c3:bl (lg2L (p+32))≤p+32+8:=lO l7
 have c4:bl (lg2H (p+32))≤p+32+8:=lO l8
 clear l1 l2 l3 l4 l5 l6 l7 l8
 generalize e1:lgmL n d (p+32)=A at*
 generalize e2:lgmH n d (p+32)=B at*
 generalize e3:lg2L (p+32)=C at*
 generalize e4:lg2H (p+32)=D at*
 by_cases he:0≤lge n d
 ·obtain⟨m,hm⟩:∃m:Nat,(lge n d).toNat=m:=⟨_,rfl⟩
  have bm:bl m≤11:=bl_le.2 (by omega)
  have b14:=aG C m
  have b15:=aG D m
  have b16:=cY (C*m) A
  have b17:=cY (D*m) B
  have b18:=aZ (C*m+A) (2^32)
  have b19:=fy (D*m+B) (am 32)
  unfold lnLo lnHi
  rw[if_pos he,if_pos he,hm,e1,e2,e3,e4]
  exact⟨mD (by omega) (by omega),mD (by omega) (by omega)⟩
 ·obtain⟨m,hm⟩:∃m:Nat,(0 - lge n d).toNat=m:=⟨_,rfl⟩
  have bm:bl m≤11:=bl_le.2 (by omega)
  have b14:=aG C m
  have b15:=aG D m
  have y1:=qo (a:=A) (b:=D*m) (w:=p+32) (k:=p+52) (by omega) (by omega) (by omega)
  have y2:=qo (a:=B) (b:=C*m) (w:=p+32) (k:=p+52) (by omega) (by omega) (by omega)
  unfold lnLo lnHi
  rw[if_neg he,if_neg he,hm,e1,e2,e3,e4]
  have z1:=sz_gd (sgn false A (2^(p+32))+ -sgn false (D*m) (2^(p+32))) p
  have z2:=sz_gu (sgn false B (2^(p+32))+ -sgn false (C*m) (2^(p+32))) p
  omega
theorem at_sz {x:Rat} {p:Nat} (hp:p≤128):sz (atLo x p)≤2048∧sz (atHi x p)≤2048:=by
 have key:bl (atA x (p+32))≤p+38∧bl (atB x (p+32))≤p+38:=by
  obtain⟨b1,b2⟩:=bl_pi (w:=p+32)
  unfold atA atB
  by_cases hb:x.den < x.num.natAbs
  ·rw[if_pos hb,if_pos hb]
   have h1:bl (piL (p+32) - anH (glo (invQ x) (p+32)) (ghi (invQ x) (p+32)) (p+32)*2^1)≤_:=aR (Nat.sub_le _ _)
   have h2:bl (piH (p+32) - anL (glo (invQ x) (p+32)) (ghi (invQ x) (p+32)) (p+32)*2^1)≤_:=aR (Nat.sub_le _ _)
   omega
  ·rw[if_neg hb,if_neg hb]
   obtain⟨l1,l2⟩:=g_le (x:=x) (w:=p+32) hb
   obtain⟨m1,m2⟩:=an_le (w:=p+32) (by omega) l1 l2
   have b3:=bl_w3 (by omega) m1
   have b4:=bl_w3 (by omega) m2
   omega
 obtain⟨k1,k2⟩:=bk_sz (neg:=decide (x.num < 0)) (k:=atK x) (p:=p) key.1 key.2 (by omega)
 exact⟨χ k1 (by omega),χ k2 (by omega)⟩
theorem as_sz {x:Rat} {p:Nat} (h:x.num.natAbs≤x.den) (hp:p≤128):sz (fg x p)≤2048∧sz (dM x p)≤2048:=by
 obtain⟨b1,b2⟩:=bl_as (w:=p+32) (by omega) h
 obtain⟨k1,k2⟩:=bk_sz (neg:=decide (x.num < 0)) (k:=32) (p:=p) b1 b2 (by omega)
 exact⟨χ k1 (by omega),χ k2 (by omega)⟩
theorem ac_sz {x:Rat} {p:Nat} (h:x.num.natAbs≤x.den) (hp:p≤128):sz (acLo x p)≤2048∧sz (acHi x p)≤2048:=by
 obtain⟨b1,b2⟩:=bl_as (w:=p+32) (by omega) h
 obtain⟨b3,b4⟩:=bl_pi (w:=p+32)
 have b5:=cu (asL x (p+32)) 1
 have b6:=cu (asU x (p+32)) 1
 unfold acLo acHi
 by_cases h0:x=0
 ·rw[if_pos h0,if_pos h0]
  obtain⟨k1,k2⟩:=bk_sz (neg:=false) (k:=33) (p:=p) b3 b4 (by omega)
  exact⟨χ k1 (by omega),χ k2 (by omega)⟩
 ·rw[if_neg h0,if_neg h0]
  by_cases hs:x.num < 0
  ·rw[if_pos hs,if_pos hs]
   have b9:=cY (piL (p+32)) (asL x (p+32)*2^1)
   have b10:=cY (piH (p+32)) (asU x (p+32)*2^1)
   obtain⟨k1,k2⟩:=bk_sz (neg:=false) (k:=33) (p:=p) (m:=p+50) (show bl (piL (p+32)+asL x (p+32)*2^1)≤p+50 by omega) (show bl (piH (p+32)+asU x (p+32)*2^1)≤p+50 by omega) (by omega)
   exact⟨χ k1 (by omega),χ k2 (by omega)⟩
  ·rw[if_neg hs,if_neg hs]
   have y1:=qo (a:=piL (p+32)) (b:=asU x (p+32)*2^1) (w:=p+32+1) (k:=p+52) (by omega) (by omega) (by omega)
   have y2:=qo (a:=piH (p+32)) (b:=asL x (p+32)*2^1) (w:=p+32+1) (k:=p+52) (by omega) (by omega) (by omega)
   have z1:=sz_gd (sgn false (piL (p+32)) (2^(p+32+1))+ -sgn false (asU x (p+32)*2^1) (2^(p+32+1))) p
   have z2:=sz_gu (sgn false (piH (p+32)) (2^(p+32+1))+ -sgn false (asL x (p+32)*2^1) (2^(p+32+1))) p
   omega
theorem g_sz {x y:Rat} {p k:Nat} (h1:sz x≤k) (h2:sz y≤k) (hk:k+2*p+2≤2048):sz (gdown x p)≤2048∧sz (gup y p)≤2048:=by
 have z1:=sz_gd x p
 have z2:=sz_gu y p
 omega
theorem ser_sz {fn:Int} {x:Rat} {p:Int} (he:eErr fn x p=0) (hb:exB fn x=false):sz (serL fn x p.toNat)≤2048∧sz (serH fn x p.toNat)≤2048:=by
 obtain⟨hf,p0,p1,hd,bx,k1,k2⟩:=dw he
 have hp:p.toNat≤128:=by omega
 generalize p.toNat=q at*
 unfold serL serH
 by_cases h1:fn=1
 ·subst h1;exact exp_sz (k1 rfl) hp
 rw[if_neg h1,if_neg h1]
 by_cases h2:fn=2
 ·subst h2
  rw[if_pos rfl,if_pos rfl]
  refine ln_sz (fun e=>?_) (χ (bG x) bx) (χ (bB x) bx) hp
  have hx:0 < x:=by simpa[defB] using hd
  have:=Rat.num_eq_zero.1 (Int.natAbs_eq_zero.1 e)
  rw[this] at hx
  exact absurd hx (by decide)
 rw[if_neg h2,if_neg h2]
 by_cases h3:fn=3
 ·subst h3
  rw[if_pos rfl,if_pos rfl]
  obtain⟨z1,z2,_,_⟩:=sc_sz (w:=q+64) (k2 (.inl rfl)) (by omega) (by omega)
  exact g_sz z1 z2 (by omega)
 rw[if_neg h3,if_neg h3]
 by_cases h4:fn=4
 ·subst h4
  rw[if_pos rfl,if_pos rfl]
  obtain⟨_,_,z1,z2⟩:=sc_sz (w:=q+64) (k2 (.inr (.inl rfl))) (by omega) (by omega)
  exact g_sz z1 z2 (by omega)
 rw[if_neg h4,if_neg h4]
 by_cases h5:fn=5
 ·subst h5
  rw[if_pos rfl,if_pos rfl]
  obtain⟨z1,z2⟩:=BV (x:=x) (w:=q+64) (k2 (.inr (.inr rfl))) (by omega) (by omega) 3
  exact g_sz z1 z2 (by omega)
 rw[if_neg h5,if_neg h5]
 by_cases h6:fn=6
 ·subst h6
  rw[if_pos rfl,if_pos rfl]
  exact as_sz (abs_1 hd) hp
 rw[if_neg h6,if_neg h6]
 by_cases h7:fn=7
 ·subst h7
  rw[if_pos rfl,if_pos rfl]
  exact ac_sz (abs_1 hd) hp
 rw[if_neg h7,if_neg h7]
 exact at_sz hp
theorem el_sz {fn:Int} {x:Rat} {p:Int}:sz (elL fn x p)≤2048∧sz (elH fn x p)≤2048:=by
 unfold elL elH
 by_cases e:elE fn x p≠0
 ·rw[if_pos e,if_pos e];decide
 ·rw[if_neg e,if_neg e]
  have he:eErr fn x p=0:=by
   refine Decidable.byContradiction fun c=>e ?_
   unfold elE
   rw[if_pos c]
   exact c
  cases hb:exB fn x with
  | true=>
   simp only[if_true]
   have:sz (exV fn x)≤2048:=by unfold exV;split<;>decide
   exact⟨this,this⟩
  |false=>exact ser_sz he hb

def brE (fn:Int) (x:Rat) (p:Int):Int:=if 2048 < sz x then 1 else elE fn x p
def brL (fn:Int) (x:Rat) (p:Int):Rat:=if 2048 < sz x then 0 else elL fn x p
def brH (fn:Int) (x:Rat) (p:Int):Rat:=if 2048 < sz x then 0 else elH fn x p
theorem br_p {fn:Int} {x:Rat} {p:Int} (h:brE fn x p=0):sz x≤1024∧0≤p∧p≤128:=by
 unfold brE at h
 split at h
 ·cases h
 ·unfold elE at h
  by_cases he:eErr fn x p=0
  ·have:=dw he;omega
  ·rw[if_pos he] at h;exact absurd h he
theorem cC {fn:Int} {x:Rat} {p:Int} (h:brE fn x p=0):brL fn x p=(if exB fn x=true then exV fn x else serL fn x p.toNat)∧brH fn x p=(if exB fn x=true then exV fn x else serH fn x p.toNat):=by
 have b:=br_p h
 unfold brE at h
 rw[if_neg (by omega)] at h
 have n1:¬2048 < sz x:=by omega
 constructor
 ·show(if 2048 < sz x then 0 else elL fn x p)=_
  rw[if_neg n1]
  show(if elE fn x p≠0 then 0 else if exB fn x=true then exV fn x else serL fn x p.toNat)=_
  rw[if_neg (fun c=>c h)]
 ·show(if 2048 < sz x then 0 else elH fn x p)=_
  rw[if_neg n1]
  show(if elE fn x p≠0 then 0 else if exB fn x=true then exV fn x else serH fn x p.toNat)=_
  rw[if_neg (fun c=>c h)]
theorem AF {a d k:Nat} (hd:d≠0) (h:d*k≤a):k≤cdiv a d:=by
 have h1:k=d*k / d:=(Nat.mul_div_cancel_left _ (τ hd)).symm
 rw[h1]
 exact χ (Nat.div_le_div_right h) (i8 a hd)
theorem de {a b d:Nat} (hd:d≠0) (h:a≤b):a / d≤cdiv b d:=χ (Nat.div_le_div_right h) (i8 b hd)
theorem AN {w y z:Nat} (h:y≤z):∀k,k≤40→eLo w y k≤eHi w z k
 |0,_=>by rw[eLo_0,eHi_0];omega
 | k+1,hk=>by
  rw[eLo_s,eHi_s]
  refine Nat.add_le_add_left (de (by omega) (de (am _) (qAk h (AN h k (by omega))))) _
theorem Bx {w a b:Nat} (h:a≤b):∀k,qLo w a k≤qHi w b k
 |0=>by rw[qLo_0,qHi_0];exact h
 | k+1=>by
  rw[qLo_s,qHi_s]
  exact de (am w) (qAk (Bx h k) (Bx h k))
theorem AU {x y:Rat} {p:Nat} (h:glo x (p+112)≤ghi y (p+112)):expL x p≤expH y p:=Bx (AN h 40 (η _)) 8
theorem dH (x:Rat) (w:Nat):glo x w≤ghi x w:=de x.den_nz (η _)
theorem fJ {a b p:Nat} (h:a≤b):sgn false a (2^p)≤sgn false b (2^p):=by
 have e1:=sgn_u a p
 have e2:=sgn_u b p
 have hp:=u_pos p
 have h':(a:Rat)≤(b:Rat):=by exact_mod_cast h
 rw[←e1,←e2] at h'
 exact lmm h' hp
theorem qk (m d:Nat):sgn true m d= -(sgn false m d):=by
 show mkRat (-(m:Int)) d= -(mkRat (m:Int) d)
 rw[Rat.neg_mkRat]
theorem pk {q:Rat} (h:0≤q):decide (q.num < 0)=false:=by
 rw[decide_eq_false_iff_not,num_neg]
 grind
theorem AJ {q:Rat} (h:q < 0):decide (q.num < 0)=true:=by
 rw[decide_eq_true_iff,num_neg]
 exact h
theorem HR (q:Rat) (n p:Nat):rtw (-q) n p=rtw q n p:=by
 unfold rtw
 rw[Rat.neg_num,Int.natAbs_neg,Rat.neg_den]
theorem rtx_neg (q:Rat) (n p:Nat):rtx (-q) n p=rtx q n p:=by
 unfold rtx
 rw[HR,Rat.neg_num,Int.natAbs_neg,Rat.neg_den]
theorem gM {q:Rat} (h:q < 0) (up:Bool) (n p:Nat):rootg up q n p= -(rootg (!up) (-q) n p):=by
 unfold rootg rtm
 rw[AJ h,pk (show 0≤ -q by grind),HR,rtx_neg,qk]
 cases up<;>rfl
theorem jB {q:Rat} (h:0≤q) (n p:Nat):rootg false q n p=sgn false (irt n (rtw q n p)) (2^p):=by
 unfold rootg rtm
 rw[pk h]
 rfl
theorem ou {q:Rat} (h:0≤q) (n p:Nat):rootg true q n p=sgn false (if rtx q n p=true then irt n (rtw q n p) else irt n (rtw q n p)+1) (2^p):=by
 unfold rootg rtm
 rw[pk h]
 cases rtx q n p<;>rfl
theorem rmul_pow (a b:Rat) (n:Nat):(a*b)^n=a^n*b^n:=by
 induction n with
 |zero=>simp
 |succ n ih=>rw[Rat.pow_succ,Rat.pow_succ,Rat.pow_succ,ih];grind
theorem qj (m:Nat) {d:Nat} (hd:d≠0):sgn false m d*(d:Rat)=(m:Rat):=by
 show mkRat (m:Int) d*(d:Rat)=_
 have h1:(d:Rat)≠0:=by exact_mod_cast hd
 rw[qBb]
 exact Rat.div_mul_cancel h1
theorem num_den {q:Rat} (h:0≤q):q*(q.den:Rat)=(q.num.natAbs:Rat):=by
 have h1:=DW q
 rw[pk h] at h1
 have h2:=qj q.num.natAbs (d:=q.den) q.den_nz
 rwa[h1] at h2
theorem De (m n p:Nat) (q:Rat):sgn false m (2^p)^n*((2^(p*n):Nat):Rat)*(q.den:Rat)=((m^n*q.den:Nat):Rat):=by
 have h1:=qj m (d:=2^p) (Nat.ne_of_gt (qAo (by decide)))
 have h2:(sgn false m (2^p)*((2^p:Nat):Rat))^n=(m:Rat)^n:=by rw[h1]
 rw[rmul_pow] at h2
 have h3:(((2^p:Nat):Rat))^n=((2^(p*n):Nat):Rat):=by rw[Nat.pow_mul];push_cast;rfl
 rw[h3] at h2
 rw[h2]
 push_cast
 rfl
theorem Dx {q:Rat} (h:0≤q) (n p:Nat):q*((2^(p*n):Nat):Rat)*(q.den:Rat)=((q.num.natAbs*2^(p*n):Nat):Rat):=by
 have h1:=num_den h
 have:q*((2^(p*n):Nat):Rat)*(q.den:Rat)=(q*(q.den:Rat))*((2^(p*n):Nat):Rat):=by grind
 rw[this,h1]
 push_cast
 rfl
theorem zW (q:Rat) (n p:Nat):(0:Rat) < ((2^(p*n):Nat):Rat)∧(0:Rat) < (q.den:Rat):=by
 have h1:0 < 2^(p*n):=qAo (by decide)
 have h2:0 < q.den:=τ q.den_nz
 exact⟨by exact_mod_cast h1,by exact_mod_cast h2⟩
theorem zN {a b c d:Rat} (hc:0 < c) (hd:0 < d):a*c*d≤b*c*d↔a≤b:=by
 constructor
 ·intro h
  refine Decidable.byContradiction fun k=>?_
  have h1:b < a:=by grind
  have h2:=Rat.mul_lt_mul_of_pos_right h1 hc
  have h3:=Rat.mul_lt_mul_of_pos_right h2 hd
  grind
 ·intro h
  have h2:=mlr h (show 0≤c by grind)
  exact mlr h2 (show 0≤d by grind)
theorem Ba {q:Rat} (h:0≤q) (m n p:Nat):sgn false m (2^p)^n≤q↔m^n*q.den≤q.num.natAbs*2^(p*n):=by
 obtain⟨h1,h2⟩:=zW q n p
 rw[←zN h1 h2,De,Dx h]
 exact_mod_cast Iff.rfl
theorem A9 {q:Rat} (h:0≤q) (m n p:Nat):q≤sgn false m (2^p)^n↔q.num.natAbs*2^(p*n)≤m^n*q.den:=by
 obtain⟨h1,h2⟩:=zW q n p
 rw[←zN h1 h2,De,Dx h]
 exact_mod_cast Iff.rfl
theorem BG (q:Rat) (n p:Nat):rtx q n p=true↔irt n (rtw q n p)^n*q.den=q.num.natAbs*2^(p*n):=by
 have hd:0 < q.den:=τ q.den_nz
 unfold rtx
 rw[φ,decide_eq_true_iff,decide_eq_true_iff]
 have hw:rtw q n p=q.num.natAbs*2^(p*n) / q.den:=rfl
 generalize irt n (rtw q n p)^n=r at*
 rw[hw]
 generalize q.num.natAbs*2^(p*n)=N at*
 have:=Nat.div_add_mod N q.den
 constructor
 ·rintro⟨h1,h2⟩
  rw[h1,ρ];omega
 ·intro h
  rw[←h]
  exact⟨(Nat.mul_div_cancel _ hd).symm,Nat.mul_mod_left ..⟩
theorem qh {q:Rat} (h:0≤q) {n:Nat} (hn:n≠0) (p:Nat):rootg false q n p^n≤q:=by
 rw[jB h,Ba h]
 have h1:=jS (n:=n) (a:=rtw q n p) hn
 have h2:rtw q n p*q.den≤q.num.natAbs*2^(p*n):=Nat.div_mul_le_self _ _
 exact χ (ψ _ h1) h2
theorem ot {q:Rat} (h:0≤q) {n:Nat} (hn:n≠0) (p:Nat):q≤rootg true q n p^n:=by
 rw[ou h,A9 h]
 cases hx:rtx q n p with
 | true=>
  have:=(BG q n p).1 hx
  simp only[if_true]
  omega
 | false=>
  simp only[qAw,if_false]
  have h1:rtw q n p < (irt n (rtw q n p)+1)^n:=Decidable.byContradiction fun k=>by
   have:=jx (n:=n) (a:=rtw q n p) (j:=irt n (rtw q n p)+1) hn (by omega)
   omega
  have hd:0 < q.den:=τ q.den_nz
  have h2:q.num.natAbs*2^(p*n) < (irt n (rtw q n p)+1)^n*q.den:=by
   have hw:rtw q n p=q.num.natAbs*2^(p*n) / q.den:=rfl
   rw[hw,Nat.div_lt_iff_lt_mul hd] at h1
   exact h1
  omega
theorem cQ {q:Rat} (h:0≤q) (up:Bool) (n p:Nat):0≤rootg up q n p:=by
 unfold rootg
 rw[pk h]
 have h1:=qj (rtm up q n p) (d:=2^p) (Nat.ne_of_gt (qAo (by decide)))
 have h2:(0:Rat) < ((2^p:Nat):Rat):=by
  have:0 < 2^p:=qAo (by decide)
  exact_mod_cast this
 have h3:(0:Rat)≤((rtm up q n p:Nat):Rat):=by exact_mod_cast qBh _
 refine Decidable.byContradiction fun k=>?_
 have h4:=Rat.mul_lt_mul_of_pos_right (show sgn false (rtm up q n p) (2^p) < 0 by grind) h2
 rw[h1,Rat.zero_mul] at h4
 grind
theorem HQ {a b:Rat} {n:Nat} (hn:n≠0) (h0:0≤a) (h:a < b):a^n < b^n:=by
 obtain⟨m,rfl⟩:∃m,n=m+1:=⟨n - 1,by omega⟩
 rw[Rat.pow_succ,Rat.pow_succ]
 have h1:=gO m h0 (show a≤b by grind)
 have h2:=mlr h1 h0
 have h3:=Rat.mul_lt_mul_of_pos_left h (Rat.pow_pos (n:=m) (show 0 < b by grind))
 grind
theorem sj {a b:Rat} (ha:0≤a) (h:a≤b) {n:Nat} (hn:n≠0) (p:Nat):rootg false a n p≤rootg true b n p:=by
 refine Decidable.byContradiction fun k=>?_
 have hb:0≤b:=qAq ha h
 have h1:=HQ hn (cQ hb true n p) (show rootg true b n p < rootg false a n p by grind)
 have h2:=qh ha hn p
 have h3:=ot hb hn p
 grind
theorem uO {a b:Rat} (h:a≤b) {n:Nat} (hn:n≠0) (p:Nat):rootg false a n p≤rootg true b n p:=by
 by_cases ha:0≤a
 ·exact sj ha h hn p
 ·have e1:=gM (show a < 0 by grind) false n p
  have n1:=cQ (show 0≤ -a by grind) true n p
  have e1:rootg false a n p= -(rootg true (-a) n p):=e1
  by_cases hb:0≤b
  ·have:=cQ hb true n p
   rw[e1];grind
  ·have e2:rootg true b n p= -(rootg false (-b) n p):=gM (show b < 0 by grind) true n p
   have:=sj (show 0≤ -b by grind) (show -b≤ -a by grind) hn p
   rw[e1,e2];grind
theorem zQ (z:Rat) (m:Nat):z^(m+2)=z^m*z^2:=by
 have e:z^2=z*z:=by rw[show(2:Nat)=1+1 from rfl,Rat.pow_succ,Rat.pow_one]
 rw[Rat.pow_succ,Rat.pow_succ,e,Rat.mul_assoc]
theorem HI {x y:Rat} (hx:0≤x) (h:x≤y):∀m:Nat,(m:Rat)*x^m*(y - x)≤(y^m - x^m)*x
 |0=>by rw[Rat.pow_zero,Rat.pow_zero];grind
 | m +1=>by
  have ih:=HI hx h m
  have e:((m+1:Nat):Rat)=(m:Rat)+1:=by push_cast;rfl
  have hy:0≤y:=qAq hx h
  have p1:=mlr ih hy
  have p2:0≤x^m*(y - x)*(y - x)*(m:Rat):=by
   have a1:0≤x^m:=Rat.pow_nonneg hx
   have a2:0≤y - x:=by grind
   have a3:(0:Rat)≤(m:Rat):=by exact_mod_cast qBh m
   exact mnn (mnn (mnn a1 a2) a2) a3
  rw[e,Rat.pow_succ,Rat.pow_succ]
  generalize x^m=X at*
  generalize y^m=Y at*
  generalize(m:Rat)=M at*
  grind
theorem DB {x y:Rat} (hx:0≤x) (h:x≤y) (hy:y≤1) (m:Nat):(m:Rat)*(y^(m+1) - x^(m+1))≤((m:Rat)+1)*(y^m - x^m):=by
 have k:=HI hx h m
 have d:0≤y^m - x^m:=by
  have:=gO m hx h
  grind
 have a3:(0:Rat)≤(m:Rat):=by exact_mod_cast qBh m
 have p1:(m:Rat)*(y^m - x^m)*y≤(m:Rat)*(y^m - x^m)*1:=mll hy (mnn a3 d)
 have p2:(y^m - x^m)*x≤(y^m - x^m)*1:=mll (qAq h hy) d
 rw[Rat.pow_succ,Rat.pow_succ]
 generalize x^m=X at*
 generalize y^m=Y at*
 generalize(m:Rat)=M at*
 grind
theorem rx {x y:Rat} (hx:0≤x) (h:x≤y) (hy:y≤1) {m:Nat} (hm:m≠0):(y^(m+2) - x^(m+2))*((m+2:Nat):Rat)⁻¹≤(y^m - x^m)*(m:Rat)⁻¹:=by
 have k1:=DB hx h hy m
 have k2:=DB hx h hy (m+1)
 have e1:((m+1:Nat):Rat)=(m:Rat)+1:=by push_cast;rfl
 have e2:((m+2:Nat):Rat)=(m:Rat)+2:=by push_cast;rfl
 have m0:(0:Rat) < (m:Rat):=by exact_mod_cast τ hm
 rw[e1] at k2
 rw[e2]
 rw[show m+1+1=m+2 from rfl] at k2
 generalize(m:Rat)=M at*
 generalize y^m - x^m=A at*
 generalize y^(m+1) - x^(m+1)=B at*
 generalize y^(m+2) - x^(m+2)=C at*
 have i1:M*M⁻¹=1:=qBf _ (by grind)
 have i2:(M+2)*(M+2)⁻¹=1:=qBf _ (by grind)
 have q:M*C≤(M+2)*A:=by
  have t:=mll k2 (llt m0)
  have t2:=mll k1 (show 0≤M+2 by grind)
  have h0:(M+1)*(M*C)≤(M+1)*((M+2)*A):=by grind
  exact Rat.le_of_mul_le_mul_left h0 (by grind)
 have n1:0≤M⁻¹:=llt (Rat.inv_pos.2 m0)
 have n2:0≤(M+2)⁻¹:=llt (Rat.inv_pos.2 (by grind))
 have r:=mlr q (mnn n1 n2)
 have z1:M*C*(M⁻¹*(M+2)⁻¹)=C*(M+2)⁻¹:=by grind
 have z2:(M+2)*A*(M⁻¹*(M+2)⁻¹)=A*M⁻¹:=by grind
 rw[z1,z2] at r
 exact r
def arcQ (t:Rat):Bool→Nat→Rat
 |false,0=>(79:Rat)⁻¹ - t*(81:Rat)⁻¹
 |true,0=>(79:Rat)⁻¹
 |false,j+1=>((77 - 2*j:Nat):Rat)⁻¹ - t*arcQ t true j
 |true,j+1=>((77 - 2*j:Nat):Rat)⁻¹ - t*arcQ t false j
theorem pg (t:Rat) (c:Bool) (j:Nat):arcQ t c (j+1)=((77 - 2*j:Nat):Rat)⁻¹ - t*arcQ t (!c) j:=by cases c<;>rfl
theorem Ax {t:Rat} (ht:0≤t):∀j,arcQ t false j≤arcQ t true j
 | 0=>by
  show(79:Rat)⁻¹ - t*(81:Rat)⁻¹≤(79:Rat)⁻¹
  have:0≤t*(81:Rat)⁻¹:=mnn ht (by decide+kernel)
  grind
 | j+1=>by
  rw[pg,pg]
  have:=mll (Ax ht j) ht
  show _ - t*arcQ t true j≤_ - t*arcQ t false j
  grind
theorem ur {x y:Rat} (hx:0≤x) (h:x≤y) (hy:y≤1):∀(j:Nat) (c:Bool),j≤39→x^(79 - 2*j)*arcQ (x^2) c j≤y^(79 - 2*j)*arcQ (y^2) c j∧y^(79 - 2*j)*arcQ (y^2) c j - x^(79 - 2*j)*arcQ (x^2) c j≤(y^(79 - 2*j) - x^(79 - 2*j))*((79 - 2*j:Nat):Rat)⁻¹
 | 0,c,_=>by
  have k:=rx hx h hy (m:=79) (by decide)
  have d:=gO 81 hx h
  have d':=gO 79 hx h
  have e79:((79 - 2*0:Nat):Rat)=79:=rfl
  have e81:((79+2:Nat):Rat)=81:=rfl
  have e79':((79:Nat):Rat)=79:=rfl
  rw[e81,e79'] at k
  rw[e79]
  have p:∀z:Rat,z^(79+2)=z^79*z^2:=fun z=>zQ z 79
  have i0:(0:Rat)≤(79:Rat)⁻¹:=by decide+kernel
  have i1:(0:Rat)≤(81:Rat)⁻¹:=by decide+kernel
  have d81:x^79*x^2≤y^79*y^2:=by rw[←p,←p];exact d
  rw[p,p] at k
  have n1:=mlr d' i0
  have n2:=mlr d81 i1
  simp only[Nat.mul_zero,Nat.sub_zero]
  cases c
  ·show x^79*((79:Rat)⁻¹ - x^2*(81:Rat)⁻¹)≤y^79*((79:Rat)⁻¹ - y^2*(81:Rat)⁻¹)∧y^79*((79:Rat)⁻¹ - y^2*(81:Rat)⁻¹) - x^79*((79:Rat)⁻¹ - x^2*(81:Rat)⁻¹)≤(y^79 - x^79)*(79:Rat)⁻¹
   clear p d d' d81 e79 e81 e79' hx h hy i0 i1
   generalize x^79=X at*
   generalize y^79=Y at*
   generalize x^2=X2 at*
   generalize y^2=Y2 at*
   generalize(79:Rat)⁻¹=A at*
   generalize(81:Rat)⁻¹=B at*
   constructor<;>grind
  ·show x^79*(79:Rat)⁻¹≤y^79*(79:Rat)⁻¹∧y^79*(79:Rat)⁻¹ - x^79*(79:Rat)⁻¹≤(y^79 - x^79)*(79:Rat)⁻¹
   clear p d d' d81 e79 e81 e79' hx h hy i0 i1
   generalize x^79=X at*
   generalize y^79=Y at*
   generalize(79:Rat)⁻¹=A at*
   constructor<;>grind
 | j+1,c,hj=>by
  obtain⟨a1,a2⟩:=ur hx h hy j (!c) (by omega)
  have k:=rx hx h hy (m:=77 - 2*j) (by omega)
  rw[show 77 - 2*j+2=79 - 2*j by omega] at k
  have p:∀z:Rat,z^(79 - 2*j)=z^(77 - 2*j)*z^2:=fun z=>by rw[←zQ];congr 1;omega
  rw[show 79 - 2*(j+1)=77 - 2*j by omega,pg,pg]
  rw[p,p] at a1 a2 k
  clear p
  generalize x^(77 - 2*j)=X at*
  generalize y^(77 - 2*j)=Y at*
  generalize arcQ (x^2) (!c) j=Q at*
  generalize arcQ (y^2) (!c) j=R at*
  generalize x^2=X2 at*
  generalize y^2=Y2 at*
  generalize((77 - 2*j:Nat):Rat)⁻¹=A at*
  generalize((79 - 2*j:Nat):Rat)⁻¹=B at*
  clear hx h hy
  constructor<;>grind
theorem ut {x y:Rat} (hx:0≤x) (h:x≤y) (hy:y≤1):x*arcQ (x^2) false 39≤y*arcQ (y^2) true 39:=by
 have h1:=(ur hx h hy 39 false (η _)).1
 rw[show 79 - 2*39=1 from rfl,Rat.pow_one,Rat.pow_one] at h1
 refine qAq h1 ?_
 exact mll (Ax (Rat.pow_nonneg (qAq hx h)) 39) (qAq hx h)
end Go.Q
