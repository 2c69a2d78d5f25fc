/-
  Contracts of the reference, and what stands on it. Conditions: each theorem's own.
-/
import Derived.Test.YtbeoaipbdfbmoaaGreatDoorK4bb526PkP
import Derived.Test.YtbeoaipbdfbmoaaGreatDoorKaecb99PkG
import Derived.Test.YtbeoaipbdfbmoaaGreatDoorK0b866fPkN
import Derived.Test.YtbeoaipbdfbmoaaGreatDoorKc827e8PkO
import Derived.Test.YtbeoaipbdfbmoaaGreatDoorKa9e506PkI
import Derived.Test.YtbeoaipbdfbmoaaGreatDoorK90bd91PkA
import Derived.Test.YtbeoaipbdfbmoaaGreatDoorKaff3dePkL
set_option linter.unusedVariables false
set_option linter.unusedSimpArgs false
open Nat renaming reduceBEq→ξ,reduceAdd→ζ,le_refl→η,zero_le→qBh,mod_eq_of_lt→qBi,lt_or_ge→qBj
open Bool renaming and_eq_true→φ
open List renaming all_eq_true→qBd
namespace Go.Q
open Go.Proofs
set_option maxRecDepth 100000
set_option maxHeartbeats 4000000
theorem zo {h0 h:PH} [Le h0 h] {v:Value} {x:NS} (hv:Rr h0 v x) (hf:x.le (2^30)) (hx:x.void=false):Spec mach 131 #[v] h (fun r h'=>Qr h' r (midQ x)) NP:=by
 rw[NS.le_ends (by decide)] at hf
 obtain⟨_,_,_,_,_,_,_,_,_,_,_,_,_,_,rfl,t1,t2⟩:=hv.sa
 cases x with
 |e=>cases hx
 | i a b=>
  dsimp only[NS.void,NS.loN,NS.hiN,NS.lo0,NS.hi0] at*
  cases a with
  | none=>
   cases b with
   | none=>
    dsimp only[Option.isNone,Option.getD] at*
    refine Spec.enter (args:=[_]) (n:=30) Tryz.func131 rfl (by kernel_rfl) rfl (by simp) [.cell 2 53] rfl (fun C _=>?_)
    repeat (first |(refine wo rfl (fun k hk=>?_);simp(disch:=omega) only[go_sem,ξ,ζ];apply hk;clear hk k) |refine wkt rfl ?_ |refine wk0 ?_ |refine rg rfl rfl (fun K hK=>?_) |refine rd [.o 0,.o 1,.o 2,.o 3,.o 4] rfl (by decide+kernel) rfl (fun K hK=>?_) |((first |refine ae ?_ |refine ac ?_);simp(disch:=decide) only[qs,qb,if_true,if_false,reduceIte]) |refine ah rfl (fun K hK=>?_) |refine ct rfl ?_ |((try simp(disch:=omega) only[go_sem,ξ,ζ]);(first |apply hK |(clear hK;apply hK) |(clear hK;clear hK;apply hK));clear hK;(try clear K);(try dsimp only[ag,qs,qb])))
    refine cN rfl rfl rfl rfl (by exact aF (n:=0) (by decide) (by decide)) ?_;rintro v1 h1 _ f1;obtain⟨v1_0,v1_1,v1_2,v1_3,v1_4,v1_5,v1_6,rfl,f1⟩:=f1.sa
    repeat (first |(refine wo rfl (fun k hk=>?_);simp(disch:=omega) only[go_sem,ξ,ζ];apply hk;clear hk k) |refine wkt rfl ?_ |refine wk0 ?_ |refine rg rfl rfl (fun K hK=>?_) |refine rd [.o 0,.o 1,.o 2,.o 3,.o 4] rfl (by decide+kernel) rfl (fun K hK=>?_) |((first |refine ae ?_ |refine ac ?_);simp(disch:=decide) only[qs,qb,if_true,if_false,reduceIte]) |refine ah rfl (fun K hK=>?_) |refine ct rfl ?_ |((try simp(disch:=omega) only[go_sem,ξ,ζ]);(first |apply hK |(clear hK;apply hK) |(clear hK;clear hK;apply hK));clear hK;(try clear K);(try dsimp only[ag,qs,qb])))
    refine ai ?_;simp(disch:=omega) only[go_sem,ξ,ζ]
    exact f1
   | some b=>
    dsimp only[Option.isNone,Option.getD] at*
    refine Spec.enter (args:=[_]) (n:=30) Tryz.func131 rfl (by kernel_rfl) rfl (by simp) [.cell 2 53] rfl (fun C _=>?_)
    repeat (first |(refine wo rfl (fun k hk=>?_);simp(disch:=omega) only[go_sem,ξ,ζ];apply hk;clear hk k) |refine wkt rfl ?_ |refine wk0 ?_ |refine rg rfl rfl (fun K hK=>?_) |refine rd [.o 0,.o 1,.o 2,.o 3,.o 4] rfl (by decide+kernel) rfl (fun K hK=>?_) |((first |refine ae ?_ |refine ac ?_);simp(disch:=decide) only[qs,qb,if_true,if_false,reduceIte]) |refine ah rfl (fun K hK=>?_) |refine ct rfl ?_ |((try simp(disch:=omega) only[go_sem,ξ,ζ]);(first |apply hK |(clear hK;apply hK) |(clear hK;clear hK;apply hK));clear hK;(try clear K);(try dsimp only[ag,qs,qb])))
    refine cN rfl rfl rfl rfl (by exact aF (n:=1) (by decide) (by decide)) ?_;rintro v1 h1 _ f1;obtain⟨v1_0,v1_1,v1_2,v1_3,v1_4,v1_5,v1_6,rfl,f1⟩:=f1.sa;(repeat (first |(refine wo rfl (fun k hk=>?_);simp(disch:=omega) only[go_sem,ξ,ζ];apply hk;clear hk k) |refine wkt rfl ?_));(try refine wk0 ?_)
    refine cN rfl rfl rfl rfl (by exact cR (t2.to (h':=h1)) f1 (by omega) (by decide)) ?_;rintro v2 h2 _ f2;obtain⟨v2_0,v2_1,v2_2,v2_3,v2_4,v2_5,v2_6,rfl,f2⟩:=f2.sa
    repeat (first |(refine wo rfl (fun k hk=>?_);simp(disch:=omega) only[go_sem,ξ,ζ];apply hk;clear hk k) |refine wkt rfl ?_ |refine wk0 ?_ |refine rg rfl rfl (fun K hK=>?_) |refine rd [.o 0,.o 1,.o 2,.o 3,.o 4] rfl (by decide+kernel) rfl (fun K hK=>?_) |((first |refine ae ?_ |refine ac ?_);simp(disch:=decide) only[qs,qb,if_true,if_false,reduceIte]) |refine ah rfl (fun K hK=>?_) |refine ct rfl ?_ |((try simp(disch:=omega) only[go_sem,ξ,ζ]);(first |apply hK |(clear hK;apply hK) |(clear hK;clear hK;apply hK));clear hK;(try clear K);(try dsimp only[ag,qs,qb])))
    refine ai ?_;simp(disch:=omega) only[go_sem,ξ,ζ]
    have e1:midQ (.i none (some b))=b - ((1:Int):Rat):=by show b+((-1:Int):Rat)=_;grind
    rw[e1];exact f2
  | some a=>
   cases b with
   | none=>
    dsimp only[Option.isNone,Option.getD] at*
    refine Spec.enter (args:=[_]) (n:=30) Tryz.func131 rfl (by kernel_rfl) rfl (by simp) [.cell 2 53] rfl (fun C _=>?_)
    repeat (first |(refine wo rfl (fun k hk=>?_);simp(disch:=omega) only[go_sem,ξ,ζ];apply hk;clear hk k) |refine wkt rfl ?_ |refine wk0 ?_ |refine rg rfl rfl (fun K hK=>?_) |refine rd [.o 0,.o 1,.o 2,.o 3,.o 4] rfl (by decide+kernel) rfl (fun K hK=>?_) |((first |refine ae ?_ |refine ac ?_);simp(disch:=decide) only[qs,qb,if_true,if_false,reduceIte]) |refine ah rfl (fun K hK=>?_) |refine ct rfl ?_ |((try simp(disch:=omega) only[go_sem,ξ,ζ]);(first |apply hK |(clear hK;apply hK) |(clear hK;clear hK;apply hK));clear hK;(try clear K);(try dsimp only[ag,qs,qb])))
    refine cN rfl rfl rfl rfl (by exact aF (n:=1) (by decide) (by decide)) ?_;rintro v1 h1 _ f1;obtain⟨v1_0,v1_1,v1_2,v1_3,v1_4,v1_5,v1_6,rfl,f1⟩:=f1.sa;(repeat (first |(refine wo rfl (fun k hk=>?_);simp(disch:=omega) only[go_sem,ξ,ζ];apply hk;clear hk k) |refine wkt rfl ?_));(try refine wk0 ?_)
    refine cN rfl rfl rfl rfl (by exact aW (t1.to (h':=h1)) f1 (by omega) (by decide)) ?_;rintro v2 h2 _ f2;obtain⟨v2_0,v2_1,v2_2,v2_3,v2_4,v2_5,v2_6,rfl,f2⟩:=f2.sa
    repeat (first |(refine wo rfl (fun k hk=>?_);simp(disch:=omega) only[go_sem,ξ,ζ];apply hk;clear hk k) |refine wkt rfl ?_ |refine wk0 ?_ |refine rg rfl rfl (fun K hK=>?_) |refine rd [.o 0,.o 1,.o 2,.o 3,.o 4] rfl (by decide+kernel) rfl (fun K hK=>?_) |((first |refine ae ?_ |refine ac ?_);simp(disch:=decide) only[qs,qb,if_true,if_false,reduceIte]) |refine ah rfl (fun K hK=>?_) |refine ct rfl ?_ |((try simp(disch:=omega) only[go_sem,ξ,ζ]);(first |apply hK |(clear hK;apply hK) |(clear hK;clear hK;apply hK));clear hK;(try clear K);(try dsimp only[ag,qs,qb])))
    refine ai ?_;simp(disch:=omega) only[go_sem,ξ,ζ]
    exact f2
   | some b=>
    dsimp only[Option.isNone,Option.getD] at*
    refine Spec.enter (args:=[_]) (n:=30) Tryz.func131 rfl (by kernel_rfl) rfl (by simp) [.cell 2 53] rfl (fun C _=>?_)
    repeat (first |(refine wo rfl (fun k hk=>?_);simp(disch:=omega) only[go_sem,ξ,ζ];apply hk;clear hk k) |refine wkt rfl ?_ |refine wk0 ?_ |refine rg rfl rfl (fun K hK=>?_) |refine rd [.o 0,.o 1,.o 2,.o 3,.o 4] rfl (by decide+kernel) rfl (fun K hK=>?_) |((first |refine ae ?_ |refine ac ?_);simp(disch:=decide) only[qs,qb,if_true,if_false,reduceIte]) |refine ah rfl (fun K hK=>?_) |refine ct rfl ?_ |((try simp(disch:=omega) only[go_sem,ξ,ζ]);(first |apply hK |(clear hK;apply hK) |(clear hK;clear hK;apply hK));clear hK;(try clear K);(try dsimp only[ag,qs,qb])))
    refine cN rfl rfl rfl rfl (by exact cT t1 t2 (by omega) (by omega)) ?_;rintro v2 h2 _ f2;obtain⟨v2_0,v2_1,v2_2,v2_3,v2_4,v2_5,v2_6,rfl,f2⟩:=f2.sa
    repeat (first |(refine wo rfl (fun k hk=>?_);simp(disch:=omega) only[go_sem,ξ,ζ];apply hk;clear hk k) |refine wkt rfl ?_ |refine wk0 ?_ |refine rg rfl rfl (fun K hK=>?_) |refine rd [.o 0,.o 1,.o 2,.o 3,.o 4] rfl (by decide+kernel) rfl (fun K hK=>?_) |((first |refine ae ?_ |refine ac ?_);simp(disch:=decide) only[qs,qb,if_true,if_false,reduceIte]) |refine ah rfl (fun K hK=>?_) |refine ct rfl ?_ |((try simp(disch:=omega) only[go_sem,ξ,ζ]);(first |apply hK |(clear hK;apply hK) |(clear hK;clear hK;apply hK));clear hK;(try clear K);(try dsimp only[ag,qs,qb])))
    refine ai ?_;simp(disch:=omega) only[go_sem,ξ,ζ]
    exact f2
theorem IN {h0 h:PH} [Le h0 h] {v:Value} {x:RI} (hv:Iv h0 v x):Spec mach 77 #[v] h (fun r h'=>Qo h' r (midO x)) NP:=by
 have hv0:=hv
 obtain⟨a1,m1,c1,a2,m2,c2,a3,m3,c3,a4,m4,c4,rfl,hx,hy⟩:=hv.sa
 unfold midO
 cases g:x.big with
 | true=>
  dsimp only[cond_true]
  refine Spec.enter (args:=[_]) (n:=23) Tryz.func77 rfl (by kernel_rfl) rfl (by simp) [.cell 2 25,.tmp 3] rfl (fun C _=>?_)
  repeat (first |(refine wo rfl (fun k hk=>?_);simp(disch:=omega) only[go_sem,ξ,ζ];apply hk;clear hk k) |refine wkt rfl ?_ |refine wk0 ?_ |refine rg rfl rfl (fun K hK=>?_) |((first |refine ae ?_ |refine ac ?_);simp(disch:=decide) only[qs,qb,if_true,if_false,reduceIte]) |refine ah rfl (fun K hK=>?_) |refine ct rfl ?_ |((try simp(disch:=omega) only[go_sem,ξ,ζ]);(first |apply hK |(clear hK;apply hK) |(clear hK;clear hK;apply hK));clear hK;(try clear K);(try dsimp only[ag,qs,qb])))
  refine cN rfl rfl rfl rfl (by exact e8 (p:=0) hv0 g) ?_;rintro v1 h1 s1 q1;obtain rfl:=q1.err
  repeat (first |(refine wo rfl (fun k hk=>?_);simp(disch:=omega) only[go_sem,ξ,ζ];apply hk;clear hk k) |refine wkt rfl ?_ |refine wk0 ?_ |refine rg rfl rfl (fun K hK=>?_) |((first |refine ae ?_ |refine ac ?_);simp(disch:=decide) only[qs,qb,if_true,if_false,reduceIte]) |refine ah rfl (fun K hK=>?_) |refine ct rfl ?_ |((try simp(disch:=omega) only[go_sem,ξ,ζ]);(first |apply hK |(clear hK;apply hK) |(clear hK;clear hK;apply hK));clear hK;(try clear K);(try dsimp only[ag,qs,qb])))
  refine ai ?_;simp(disch:=omega) only[go_sem,ξ,ζ]
  all_goals rfl
 | false=>
  dsimp only[cond_false]
  have kO:=fun {h} [Le h0 h]=>fu (h:=h) (p:=0) hv0 g rfl
  have hl:=RI.le30 g
  generalize x.set=s at*
  cases s with
  | e=>
   dsimp only[NS.void,cond_true]
   refine Spec.enter (args:=[_]) (n:=23) Tryz.func77 rfl (by kernel_rfl) rfl (by simp) [.cell 2 25,.tmp 3] rfl (fun C _=>?_)
   repeat (first |(refine wo rfl (fun k hk=>?_);simp(disch:=omega) only[go_sem,ξ,ζ];apply hk;clear hk k) |refine wkt rfl ?_ |refine wk0 ?_ |refine rg rfl rfl (fun K hK=>?_) |((first |refine ae ?_ |refine ac ?_);simp(disch:=decide) only[qs,qb,if_true,if_false,reduceIte]) |refine ah rfl (fun K hK=>?_) |refine ct rfl ?_ |((try simp(disch:=omega) only[go_sem,ξ,ζ]);(first |apply hK |(clear hK;apply hK) |(clear hK;clear hK;apply hK));clear hK;(try clear K);(try dsimp only[ag,qs,qb])))
   refine cN rfl rfl rfl rfl (by exact kO) ?_;rintro v1 h1 s1 q1;obtain⟨_,_,_,_,_,_,_,_,_,_,_,_,_,_,rfl,q2⟩:=q1.ok;(repeat (first |(refine wo rfl (fun k hk=>?_);simp(disch:=omega) only[go_sem,ξ,ζ];apply hk;clear hk k) |refine wkt rfl ?_));(try refine wk0 ?_)
   dsimp only[NS.void] at*
   repeat (first |(refine wo rfl (fun k hk=>?_);simp(disch:=omega) only[go_sem,ξ,ζ];apply hk;clear hk k) |refine wkt rfl ?_ |refine wk0 ?_ |refine rg rfl rfl (fun K hK=>?_) |((first |refine ae ?_ |refine ac ?_);simp(disch:=decide) only[qs,qb,if_true,if_false,reduceIte]) |refine ah rfl (fun K hK=>?_) |refine ct rfl ?_ |((try simp(disch:=omega) only[go_sem,ξ,ζ]);(first |apply hK |(clear hK;apply hK) |(clear hK;clear hK;apply hK));clear hK;(try clear K);(try dsimp only[ag,qs,qb])))
   refine ai ?_;simp(disch:=omega) only[go_sem,ξ,ζ]
   all_goals rfl
  | i a b=>
   dsimp only[NS.void,cond_false]
   by_cases hz:sz (midQ (.i a b))≤2048
   ·rw[decide_eq_true hz,cond_true]
    refine Spec.enter (args:=[_]) (n:=23) Tryz.func77 rfl (by kernel_rfl) rfl (by simp) [.cell 2 25,.tmp 3] rfl (fun C _=>?_)
    repeat (first |(refine wo rfl (fun k hk=>?_);simp(disch:=omega) only[go_sem,ξ,ζ];apply hk;clear hk k) |refine wkt rfl ?_ |refine wk0 ?_ |refine rg rfl rfl (fun K hK=>?_) |((first |refine ae ?_ |refine ac ?_);simp(disch:=decide) only[qs,qb,if_true,if_false,reduceIte]) |refine ah rfl (fun K hK=>?_) |refine ct rfl ?_ |((try simp(disch:=omega) only[go_sem,ξ,ζ]);(first |apply hK |(clear hK;apply hK) |(clear hK;clear hK;apply hK));clear hK;(try clear K);(try dsimp only[ag,qs,qb])))
    refine cN rfl rfl rfl rfl (by exact kO) ?_;rintro v1 h1 s1 q1;obtain⟨_,_,_,_,_,_,_,_,_,_,_,_,_,_,rfl,q2⟩:=q1.ok;(repeat (first |(refine wo rfl (fun k hk=>?_);simp(disch:=omega) only[go_sem,ξ,ζ];apply hk;clear hk k) |refine wkt rfl ?_));(try refine wk0 ?_)
    dsimp only[NS.void] at*
    repeat (first |(refine wo rfl (fun k hk=>?_);simp(disch:=omega) only[go_sem,ξ,ζ];apply hk;clear hk k) |refine wkt rfl ?_ |refine wk0 ?_ |refine rg rfl rfl (fun K hK=>?_) |((first |refine ae ?_ |refine ac ?_);simp(disch:=decide) only[qs,qb,if_true,if_false,reduceIte]) |refine ah rfl (fun K hK=>?_) |refine ct rfl ?_ |((try simp(disch:=omega) only[go_sem,ξ,ζ]);(first |apply hK |(clear hK;apply hK) |(clear hK;clear hK;apply hK));clear hK;(try clear K);(try dsimp only[ag,qs,qb])))
    refine cN rfl rfl rfl rfl (by exact zo q2 hl rfl) ?_;rintro v2 h2 _ f2;obtain⟨v2_0,v2_1,v2_2,v2_3,v2_4,v2_5,v2_6,rfl,f2⟩:=f2.sa;(repeat (first |(refine wo rfl (fun k hk=>?_);simp(disch:=omega) only[go_sem,ξ,ζ];apply hk;clear hk k) |refine wkt rfl ?_));(try refine wk0 ?_)
    refine cN rfl rfl rfl rfl (by exact Done_ok f2 hz) ?_;rintro v3 h3 s3 ⟨u,rfl,q3⟩;obtain⟨_,_,_,_,_,_,_,rfl,q3⟩:=q3.sa
    repeat (first |(refine wo rfl (fun k hk=>?_);simp(disch:=omega) only[go_sem,ξ,ζ];apply hk;clear hk k) |refine wkt rfl ?_ |refine wk0 ?_ |refine rg rfl rfl (fun K hK=>?_) |((first |refine ae ?_ |refine ac ?_);simp(disch:=decide) only[qs,qb,if_true,if_false,reduceIte]) |refine ah rfl (fun K hK=>?_) |refine ct rfl ?_ |((try simp(disch:=omega) only[go_sem,ξ,ζ]);(first |apply hK |(clear hK;apply hK) |(clear hK;clear hK;apply hK));clear hK;(try clear K);(try dsimp only[ag,qs,qb])))
    refine ai ?_;simp(disch:=omega) only[go_sem,ξ,ζ]
    exact⟨_,rfl,q3⟩
   ·rw[decide_eq_false hz,cond_false]
    refine Spec.enter (args:=[_]) (n:=23) Tryz.func77 rfl (by kernel_rfl) rfl (by simp) [.cell 2 25,.tmp 3] rfl (fun C _=>?_)
    repeat (first |(refine wo rfl (fun k hk=>?_);simp(disch:=omega) only[go_sem,ξ,ζ];apply hk;clear hk k) |refine wkt rfl ?_ |refine wk0 ?_ |refine rg rfl rfl (fun K hK=>?_) |((first |refine ae ?_ |refine ac ?_);simp(disch:=decide) only[qs,qb,if_true,if_false,reduceIte]) |refine ah rfl (fun K hK=>?_) |refine ct rfl ?_ |((try simp(disch:=omega) only[go_sem,ξ,ζ]);(first |apply hK |(clear hK;apply hK) |(clear hK;clear hK;apply hK));clear hK;(try clear K);(try dsimp only[ag,qs,qb])))
    refine cN rfl rfl rfl rfl (by exact kO) ?_;rintro v1 h1 s1 q1;obtain⟨_,_,_,_,_,_,_,_,_,_,_,_,_,_,rfl,q2⟩:=q1.ok;(repeat (first |(refine wo rfl (fun k hk=>?_);simp(disch:=omega) only[go_sem,ξ,ζ];apply hk;clear hk k) |refine wkt rfl ?_));(try refine wk0 ?_)
    dsimp only[NS.void] at*
    repeat (first |(refine wo rfl (fun k hk=>?_);simp(disch:=omega) only[go_sem,ξ,ζ];apply hk;clear hk k) |refine wkt rfl ?_ |refine wk0 ?_ |refine rg rfl rfl (fun K hK=>?_) |((first |refine ae ?_ |refine ac ?_);simp(disch:=decide) only[qs,qb,if_true,if_false,reduceIte]) |refine ah rfl (fun K hK=>?_) |refine ct rfl ?_ |((try simp(disch:=omega) only[go_sem,ξ,ζ]);(first |apply hK |(clear hK;apply hK) |(clear hK;clear hK;apply hK));clear hK;(try clear K);(try dsimp only[ag,qs,qb])))
    refine cN rfl rfl rfl rfl (by exact zo q2 hl rfl) ?_;rintro v2 h2 _ f2;obtain⟨v2_0,v2_1,v2_2,v2_3,v2_4,v2_5,v2_6,rfl,f2⟩:=f2.sa;(repeat (first |(refine wo rfl (fun k hk=>?_);simp(disch:=omega) only[go_sem,ξ,ζ];apply hk;clear hk k) |refine wkt rfl ?_));(try refine wk0 ?_)
    refine cN rfl rfl rfl rfl (by exact Done_no f2 hz) ?_;rintro v3 h3 s3 q3;unfold zRat at q3;subst q3
    repeat (first |(refine wo rfl (fun k hk=>?_);simp(disch:=omega) only[go_sem,ξ,ζ];apply hk;clear hk k) |refine wkt rfl ?_ |refine wk0 ?_ |refine rg rfl rfl (fun K hK=>?_) |((first |refine ae ?_ |refine ac ?_);simp(disch:=decide) only[qs,qb,if_true,if_false,reduceIte]) |refine ah rfl (fun K hK=>?_) |refine ct rfl ?_ |((try simp(disch:=omega) only[go_sem,ξ,ζ]);(first |apply hK |(clear hK;apply hK) |(clear hK;clear hK;apply hK));clear hK;(try clear K);(try dsimp only[ag,qs,qb])))
    refine ai ?_;simp(disch:=omega) only[go_sem,ξ,ζ]
    all_goals rfl
set_option maxHeartbeats 8000000
abbrev Pv1:=ByteArray×Bool×Nat×Nat
def Ptv (h:PH) (v:Value) (l:List Pv1):Prop:=∃a c,v=.slice a l.length c∧l.length≤2^30∧∀i s,l[i]?=some s→∃ad a1 m1 c1 a2 m2 c2,a=some ad∧
 (∀j v,([.string s.1,.bool s.2.1,.slice a1 m1 c1,.slice a2 m2 c2]:List Value)[j]?=some v→h.at ((ad.add (i*4)).add j)=some v)∧Rw h (.agg #[.bool s.2.1,.slice a1 m1 c1,.slice a2 m2 c2]) s.2.1 s.2.2.1 s.2.2.2
theorem Ptv.to {h h':PH} {v:Value} {l:List Pv1} (r:Ptv h v l) [t:Le h h']:Ptv h' v l:=by
 obtain⟨a,c,rfl,hl,k⟩:=r
 refine⟨a,c,rfl,hl,fun i s hi=>?_⟩
 obtain⟨ad,a1,m1,c1,a2,m2,c2,h1,h2,h3⟩:=k i s hi
 exact⟨ad,a1,m1,c1,a2,m2,c2,h1,fun j v hj=>t.sub.at (h2 j v hj),h3.to⟩
theorem Ptv.sa {h:PH} {v:Value} {l:List Pv1} (r:Ptv h v l):∃a m c,v=.slice a m c:=let ⟨a,c,h1,_⟩:=r;⟨a,_,c,h1⟩
def okP1 (l:List Pv1) (i:Nat):Bool:=match l[i]? with
 | some x=>nameB x.1 && (decide (i=0) || (match l[i - 1]? with
  |some y=>Op.bytesLess y.1.toList x.1.toList
  |none=>true)) && !decide (lg x.2.1 x.2.2.1 x.2.2.2)
 |none=>true
def okP (l:List Pv1):Bool:=(List.range l.length).all (okP1 l)
theorem okP_no {l:List Pv1} {i:Nat} (hi:i < l.length) (h:okP1 l i=false):okP l=false:=List.all_eq_false.2 ⟨i,List.mem_range.2 hi,by rw[h];decide⟩
theorem okP_yes {l:List Pv1} (h:∀j,j < l.length→okP1 l j=true):okP l=true:=qBd.2 fun j hj=>h j (List.mem_range.1 hj)
theorem NumSign_no {h0 h:PH} [Le h0 h] {v:Value} {neg:Bool} {n d:Nat} (hv:Rw h0 v neg n d) (hl:lg neg n d):Spec mach 78 #[v] h (fun r _=>r=.tuple #[.int .i64 0,.int .i64 1]) NP:=by
 have kX:=fun {h} [Le h0 h]=>Gm (h:=h) hv hl
 obtain⟨_,_,_,_,_,_,_,rfl,_⟩:=hv.sa
 refine Spec.go [] Tryz.func78 rfl rfl (by kernel_rfl) fun C _=>?_
 try simp(maxSteps:=999999) (disch:=omega) only[go_sem,ξ,ζ]
 refine caN (by exact kX) ?_;rintro v1 h1 s1 ⟨_,_,_,_,_,_,_,rfl⟩
 try simp(maxSteps:=999999) (disch:=omega) only[go_sem,ξ,ζ]
 all_goals rfl
theorem IsPoint_spec {h0 h:PH} [Le h0 h] {v:Value} {l:List Pv1} (hv:Ptv h0 v l):Spec mach 58 #[v] h (fun r _=>r=.bool (okP l)) NP:=by
  obtain⟨a,c,rfl,hl,k⟩:=hv
  refine Spec.go [] Tryz.func58 rfl rfl (by kernel_rfl) fun C _=>?_
  try simp(maxSteps:=999999) (disch:=omega) only[go_sem,ξ,ζ]
  refine lp [] (fun i:Nat=>⟨[(0,.v (.slice a l.length c)),(7,.v (.slice a l.length c)),(8,.v (.int .i64 l.length)),(9,.v (.int .i64 i))],[]⟩) (fun i h'=>Le h0 h'∧i≤l.length∧∀j,j < i→okP1 l j=true) (fun i=>l.length - i) 0 ?_ ⟨inferInstance,qBh _,fun j hj=>absurd hj (by omega)⟩ (by kernel_rfl) ?_
  · try simp(maxSteps:=999999) (disch:=omega) only[go_sem,ξ,ζ]
    all_goals rfl
  rintro i h2 ⟨le2,hi,hj⟩
  by_cases hlt:(i:Int) < l.length
  · obtain⟨x,hx⟩:∃x,l[i]?=some x:=⟨_,List.getElem?_eq_getElem (by omega)⟩
    obtain⟨ad,a1,m1,c1,a2,m2,c2,rfl,hat,hr⟩:=k i x hx
    try simp(maxSteps:=999999) (disch:=omega) only[go_sem,ξ,ζ,hlt,decide_true]
    refine Exists.intro [_,_,_,_] (And.intro rfl (And.intro (fun j v hj=>le2.sub.at (hat j v hj)) ?_))
    try simp(maxSteps:=999999) (disch:=omega) only[go_sem,ξ,ζ]
    refine caN (by exact IsName_spec) ?_;rintro v3 h3 s3 rfl
    try simp(maxSteps:=999999) (disch:=omega) only[go_sem,ξ,ζ]
    have big:decide (lg x.2.1 x.2.2.1 x.2.2.2)=true→okP1 l i=false:=fun g=>by unfold okP1;rw[hx];simp only[g];simp
    have nam:nameB x.1=false→okP1 l i=false:=fun g=>by unfold okP1;rw[hx];simp[g]
    have hi':i < l.length:=by omega
    cases hn:nameB x.1 with
    | false=>
      rw[okP_no hi' (nam hn)]
      try simp(maxSteps:=999999) (disch:=omega) only[go_sem,ξ,ζ,hn]
    | true=>
      have nxt:(decide (i=0) || (match l[i - 1]? with |some y=>Op.bytesLess y.1.toList x.1.toList |none=>true))=true→decide (lg x.2.1 x.2.2.1 x.2.2.2)=false→okP1 l i=true:=fun g1 g2=>by
        unfold okP1;rw[hx]
        show(nameB x.1 && _ && !_)=true
        rw[hn,g1,g2];rfl
      by_cases i0:(i:Int) > 0
      · obtain⟨y,hy⟩:∃y,l[i - 1]?=some y:=⟨_,List.getElem?_eq_getElem (by omega)⟩
        obtain⟨ad',_,_,_,_,_,_,ea,hat',_⟩:=k (i - 1) y hy
        cases ea
        have hyat:h0.at (ad.add ((i - 1)*4))=some (.string y.1):=hat' 0 _ rfl
        have ew:((i:Int) - 1).toNat=i - 1:=by omega
        try simp(maxSteps:=999999) (disch:=omega) only[go_sem,ξ,ζ,hn,i0,decide_true,ew]
        refine aE ((inferInstance:Le h0 h3).sub.at hyat) ?_
        try simp(maxSteps:=999999) (disch:=omega) only[go_sem,ξ,ζ]
        cases hB:Op.bytesLess y.1.toList x.1.toList with
        | false=>
          rw[okP_no hi' (by unfold okP1;rw[hx];simp only[hy,hB];rw[decide_eq_false (by omega)];simp)]
          try simp(maxSteps:=999999) (disch:=omega) only[go_sem,ξ,ζ,hB]
        | true=>
          try simp(maxSteps:=999999) (disch:=omega) only[go_sem,ξ,ζ,hB]
          cases gb:decide (lg x.2.1 x.2.2.1 x.2.2.2) with
          | true=>
            rw[okP_no hi' (big gb)]
            refine caN (by exact NumSign_no (hr.to (h':=h3)) (of_decide_eq_true gb)) ?_;rintro v4 h4 s4 rfl
            try simp(maxSteps:=999999) (disch:=omega) only[go_sem,ξ,ζ]
          | false=>
            refine caN (by exact NumSign (hr.to (h':=h3)) (of_decide_eq_false gb)) ?_;rintro v4 h4 s4 rfl
            try simp(maxSteps:=999999) (disch:=omega) only[go_sem,ξ,ζ]
            dsimp only[lpE];refine⟨i+1,?_,⟨inferInstance,by omega,fun j k=>?_⟩,by omega⟩
            · try simp(maxSteps:=999999) (disch:=omega) only[go_sem,ξ,ζ]
              all_goals rfl
            · rcases qBj j i with g |g
              · exact hj j g
              · obtain rfl:j=i:=by omega
                exact nxt (by rw[hy];simp[hB]) gb
      · try simp(maxSteps:=999999) (disch:=omega) only[go_sem,ξ,ζ,hn,i0,decide_false]
        cases gb:decide (lg x.2.1 x.2.2.1 x.2.2.2) with
        | true=>
          rw[okP_no hi' (big gb)]
          refine caN (by exact NumSign_no (hr.to (h':=h3)) (of_decide_eq_true gb)) ?_;rintro v4 h4 s4 rfl
          try simp(maxSteps:=999999) (disch:=omega) only[go_sem,ξ,ζ]
        | false=>
          refine caN (by exact NumSign (hr.to (h':=h3)) (of_decide_eq_false gb)) ?_;rintro v4 h4 s4 rfl
          try simp(maxSteps:=999999) (disch:=omega) only[go_sem,ξ,ζ]
          dsimp only[lpE];refine⟨i+1,?_,⟨inferInstance,by omega,fun j k=>?_⟩,by omega⟩
          · try simp(maxSteps:=999999) (disch:=omega) only[go_sem,ξ,ζ]
            all_goals rfl
          · rcases qBj j i with g |g
            · exact hj j g
            · obtain rfl:j=i:=by omega
              exact nxt (by rw[decide_eq_true (by omega)];rfl) gb
  · rw[okP_yes (fun j k=>hj j (by omega))]
    try simp(maxSteps:=999999) (disch:=omega) only[go_sem,ξ,ζ,hlt,decide_false]

theorem Br.u {r r':Value} {o:Except Int Bool} (h:Br r o) (h':Br r' o):r'=r:=by
 cases o with
 |ok b=>cases(h:r=_);exact h'
 |error e=>cases(h:r=_);exact h'
def inS (b:List Sd1) (p:List Pv1) (i:Nat):Bool:=match b[i]?,p[i]? with
 |some x,some y=>y.1.toList == x.1.toList && x.2.set.has (qof y.2.1 y.2.2.1 y.2.2.2)
 |_,_=>true
def inB (b:List Sd1) (p:List Pv1):Bool:=decide (p.length=b.length) && (List.range p.length).all (inS b p)
theorem inB_no {b:List Sd1} {p:List Pv1} {i:Nat} (hi:i < p.length) (h:inS b p i=false):inB b p=false:=by
 unfold inB
 rw[Bool.and_eq_false_iff]
 exact .inr (List.all_eq_false.2 ⟨i,List.mem_range.2 hi,by rw[h];decide⟩)
theorem inB_yes {b:List Sd1} {p:List Pv1} (hl:p.length=b.length) (h:∀j,j < p.length→inS b p j=true):inB b p=true:=by
 unfold inB
 rw[decide_eq_true hl,Bool.true_and]
 exact qBd.2 fun j hj=>h j (List.mem_range.1 hj)
theorem okP_big {l:List Pv1} (h:okP l=true) {i:Nat} {x:Pv1} (hx:l[i]?=some x):¬lg x.2.1 x.2.2.1 x.2.2.2:=by
 have:=qBd.1 h i (List.mem_range.2 (List.getElem?_eq_some_iff.1 hx).1)
 unfold okP1 at this
 rw[hx] at this
 simp only[φ,Bool.not_eq_true',decide_eq_false_iff_not] at this
 exact this.2
theorem InBox_p {h0 h:PH} [Le h0 h] {v w:Value} {b:List Sd1} {p:List Pv1} (hv:Boxv h0 v b) (hw:Ptv h0 w p) (hb:okB b=true) (hp:okP p=true):Spec mach 59 #[v,w] h (fun r _=>r=.bool (inB b p)) NP:=by
 obtain⟨a,c,rfl,hl,k⟩:=hv.side
 obtain⟨a',c',rfl,hl',k'⟩:=hw
 by_cases hn:p.length=b.length
 ·have en : ((p.length:Int) != (b.length:Int))=false:=by simp[hn]
  refine Spec.go [] Tryz.func59 rfl rfl (by kernel_rfl) fun C _=>?_
  try simp(maxSteps:=999999) (disch:=omega) only[go_sem,ξ,ζ,en]
  refine lp [] (fun i:Nat=>⟨[(0,.v (.slice a b.length c)),(14,.v (.slice a' p.length c')),(15,.v (.int .i64 p.length)),(16,.v (.int .i64 i))],[]⟩) (fun i h'=>Le h0 h'∧i≤p.length∧∀j,j < i→inS b p j=true) (fun i=>p.length - i) 0 ?_ ⟨inferInstance,qBh _,fun j hj=>absurd hj (by omega)⟩ (by kernel_rfl) ?_
  ·try simp(maxSteps:=999999) (disch:=omega) only[go_sem,ξ,ζ]
   all_goals rfl
  rintro i h2 ⟨le2,hi,hj⟩
  by_cases hlt:(i:Int) < p.length
  ·obtain⟨y,hy⟩:∃y,p[i]?=some y:=⟨_,List.getElem?_eq_getElem (by omega)⟩
   obtain⟨x,hx⟩:∃x,b[i]?=some x:=⟨_,List.getElem?_eq_getElem (by omega)⟩
   obtain⟨ad,a1,m1,c1,a2,m2,c2,a3,m3,c3,a4,m4,c4,rfl,hat,r1,r2,hiv⟩:=k i x hx
   obtain⟨ad',b1,n1,d1,b2,n2,d2,rfl,hat',hr⟩:=k' i y hy
   have hlb:(i:Int) < b.length:=by omega
   have hx0:h0.at (ad.add (i*9))=some (.string x.1):=hat 0 _ rfl
   have eS:inS b p i=(y.1.toList == x.1.toList && x.2.set.has (qof y.2.1 y.2.2.1 y.2.2.2)):=by unfold inS;rw[hx,hy]
   have hi':i < p.length:=by omega
   try simp(maxSteps:=999999) (disch:=omega) only[go_sem,ξ,ζ,hlt,decide_true]
   refine Exists.intro [_,_,_,_] (And.intro rfl (And.intro (fun j v hj=>le2.sub.at (hat' j v hj)) ?_))
   try simp(maxSteps:=999999) (disch:=omega) only[go_sem,ξ,ζ]
   refine aE (le2.sub.at hx0) ?_
   try simp(maxSteps:=999999) (disch:=omega) only[go_sem,ξ,ζ]
   cases hE:(y.1.toList == x.1.toList) with
   | false=>
    rw[inB_no hi' (by rw[eS,hE];rfl)]
    try simp(maxSteps:=999999) (disch:=omega) only[go_sem,ξ,ζ,hE]
   | true=>
    try simp(maxSteps:=999999) (disch:=omega) only[go_sem,ξ,ζ,hE]
    refine Exists.intro [_,_,_,_,_,_,_,_] (And.intro rfl (And.intro (fun j v hj=>by rw[add_1];exact le2.sub.at (hat (j+1) v hj)) ?_))
    try simp(maxSteps:=999999) (disch:=omega) only[go_sem,ξ,ζ]
    have kH:=wP (h0:=h2) (h:=h2) hiv.to hr.to
    unfold hasO at kH
    rw[okB_big hb hx,decide_eq_false (okP_big hp hy),Bool.or_false,cond_false] at kH
    refine caN (by exact kH) ?_;rintro v4 h4 s4 q4;obtain rfl:v4=_:=q4
    try simp(maxSteps:=999999) (disch:=omega) only[go_sem,ξ,ζ]
    cases hH:x.2.set.has (qof y.2.1 y.2.2.1 y.2.2.2) with
    | false=>
     rw[inB_no hi' (by rw[eS,hE,hH];rfl)]
     try simp(maxSteps:=999999) (disch:=omega) only[go_sem,ξ,ζ,hH]
    | true=>
     try simp(maxSteps:=999999) (disch:=omega) only[go_sem,ξ,ζ,hH]
     dsimp only[lpE];refine⟨i+1,?_,⟨inferInstance,by omega,fun j k=>?_⟩,by omega⟩
     ·try simp(maxSteps:=999999) (disch:=omega) only[go_sem,ξ,ζ]
      all_goals rfl
     ·rcases qBj j i with g |g
      ·exact hj j g
      ·obtain rfl:j=i:=by omega
       rw[eS,hE,hH];rfl
  ·rw[inB_yes hn (fun j k=>hj j (by omega))]
   try simp(maxSteps:=999999) (disch:=omega) only[go_sem,ξ,ζ,hlt,decide_false]
 ·have en:((p.length:Int) != (b.length:Int))=true:=by simp;omega
  rw[show inB b p=false by unfold inB;rw[decide_eq_false hn];rfl]
  refine Spec.go [] Tryz.func59 rfl rfl (by kernel_rfl) fun C _=>?_
  try simp(maxSteps:=999999) (disch:=omega) only[go_sem,ξ,ζ,en]
def holR (b:List Sd1) (p:List Pv1):Bool×Int:=bif okB b && okP p then (inB b p,0) else (false,50)
theorem Holds_p {h0 h:PH} [Le h0 h] {v w:Value} {b:List Sd1} {p:List Pv1} (hv:Boxv h0 v b) (hw:Ptv h0 w p):Spec mach 33 #[v,w] h (fun r _=>r=.tuple #[.bool (holR b p).1,.int .i64 (holR b p).2]) NP:=by
 have kV:=fun {h} [Le h0 h]=>BValid_spec (h:=h) hv
 have kP:=fun {h} [Le h0 h]=>IsPoint_spec (h:=h) hw
 have kI:=fun(g1:okB b=true) (g2:okP p=true) {h} [Le h0 h]=>InBox_p (h:=h) hv hw g1 g2
 unfold holR
 obtain⟨_,_,_,rfl⟩:=hv.sa
 obtain⟨_,_,_,rfl⟩:=hw.sa
 cases g1:okB b with
 | false=>
  rw[g1] at kV
  refine Spec.go [] Tryz.func33 rfl rfl (by kernel_rfl) fun C _=>?_
  try simp(maxSteps:=999999) (disch:=omega) only[go_sem,ξ,ζ]
  refine caN (by exact kV) ?_;rintro v1 h1 s1 rfl
  try simp(maxSteps:=999999) (disch:=omega) only[go_sem,ξ,ζ]
  all_goals rfl
 | true=>
  rw[g1] at kV
  cases g2:okP p with
  | false=>
   rw[g2] at kP
   refine Spec.go [] Tryz.func33 rfl rfl (by kernel_rfl) fun C _=>?_
   try simp(maxSteps:=999999) (disch:=omega) only[go_sem,ξ,ζ]
   refine caN (by exact kV) ?_;rintro v1 h1 s1 rfl
   try simp(maxSteps:=999999) (disch:=omega) only[go_sem,ξ,ζ]
   refine caN (by exact kP) ?_;rintro v2 h2 s2 rfl
   try simp(maxSteps:=999999) (disch:=omega) only[go_sem,ξ,ζ]
   all_goals rfl
  | true=>
   rw[g2] at kP
   refine Spec.go [] Tryz.func33 rfl rfl (by kernel_rfl) fun C _=>?_
   try simp(maxSteps:=999999) (disch:=omega) only[go_sem,ξ,ζ]
   refine caN (by exact kV) ?_;rintro v1 h1 s1 rfl
   try simp(maxSteps:=999999) (disch:=omega) only[go_sem,ξ,ζ]
   refine caN (by exact kP) ?_;rintro v2 h2 s2 rfl
   try simp(maxSteps:=999999) (disch:=omega) only[go_sem,ξ,ζ]
   refine caN (by exact kI g1 g2) ?_;rintro v3 h3 s3 rfl
   try simp(maxSteps:=999999) (disch:=omega) only[go_sem,ξ,ζ]
   all_goals rfl
section
variable {M:Mach} {C:Ctx} {n:Nat} {S:AS} {h:PH} {Q:Exit→AS→PH→Prop} {E:List PanicEntry→PH→Prop}
theorem order_o (l:List Nat):order (l.map .o)=l:=by
 induction l with
 |nil=>rfl
 |cons x l ih=>simp[order,ih]
theorem apO {id:Nat} {ops:Array Oper} {b:Bool} {d:Nat} {x y:Operand} {T U V:TypeId} {ps:String} {ar:Array Edge} {sz:Nat} (pl1:List Nat) (i:Nat) (pl2:List Nat) (hi:nth ops.toList i=some ⟨some d,.call {callee:=.builtin .append,args:=#[x,y],argTypes:=#[T,U]},V,ps,ar,none⟩)
  (hU:uk M.P U=.slice) (hz:mkN M.P T sz=true) (hc:(bif b then fi ops (pl1 ++i :: pl2) else (pl1 ++i :: pl2) == List.range ops.size)=true) (hd:d < n) (h1:(prep n ops (pl1.map .o)).isSome=true) (h2:(prep n ops (pl2.map .o)).isSome=true)
  (hw:walkO M E ops.toList (pickO ops.toList pl1) (fun S h=>appN sz S h (S.ev x) (S.ev y) fun S h v=>walkO M E ops.toList (pickO ops.toList pl2) (fun S h=>Q .normal S h) (S.put (some d) v) h) S h):AWP M n C (.region id ops b) Q E S h:=by
 obtain⟨l1,e1⟩:=Option.isSome_iff_exists.1 h1
 obtain⟨l2,e2⟩:=Option.isSome_iff_exists.1 h2
 simp only[oE pl2 l2 e2] at hw
 rw[oE pl1 l1 e1] at hw
 cases b with
 |true=>exact AWP_apD (pl1.map .o) i (pl2.map .o) hi hU hz (by rw[order_o,order_o];exact hc) hd e1 e2 hw
 |false=>exact AWP_app (pl1.map .o) i (pl2.map .o) hi hU hz (by rw[order_o,order_o];exact beq_iff_eq.1 hc) hd e1 e2 hw
end

theorem N32.rw {h:PH} {neg:Bool} {v w:Value} {n d:Nat} (hv:N32 h v n) (hw:N32 h w d) (bn:bl n≤2^30) (bd:bl d≤2^30):Rw h (.agg #[.bool neg,v,w]) neg n d:=by
 obtain⟨a,c,xs,rfl,ha,hx,rfl⟩:=hv.out
 obtain⟨a',c',ys,rfl,ha',hy,rfl⟩:=hw.out
 have l1:=dj (val 4294967296 xs)
 have l2:=dj (val 4294967296 ys)
 rw[hx] at l1
 rw[hy] at l2
 exact⟨a,c,xs,a',c',ys,rfl,ha,ha',rfl,rfl,by omega,by omega⟩
theorem rH {h0 h:PH} [Le h0 h] {v:Value} {n:Nat} (hv:N32 h0 v n):Spec mach 192 #[v] h (fun v h'=>N32 h' v n) NP:=by
 obtain⟨a,c,xs,rfl,ha,_,rfl⟩:=hv.out
 exact Of_N ha
theorem nameX:nameB ⟨#[120]⟩=true:=by decide+kernel
theorem Kids_x {h:PH}:Spec mach 271 #[.int .i64 2] h (fun v _=>v=.tuple #[.int .i64 0,.bool true]) NP:=by
 refine Spec.go [] Tryz.func271 rfl rfl (by kernel_rfl) fun C _=>?_
 try simp(maxSteps:=999999) (disch:=omega) only[go_sem,ξ,ζ]
theorem Kids_a {h:PH}:Spec mach 271 #[.int .i64 5] h (fun v _=>v=.tuple #[.int .i64 2,.bool true]) NP:=by
 refine Spec.go [] Tryz.func271 rfl rfl (by kernel_rfl) fun C _=>?_
 try simp(maxSteps:=999999) (disch:=omega) only[go_sem,ξ,ζ]
theorem Fields_x {h:PH}:Spec mach 230 #[exXv] h (fun v _=>v=.bool true) NP:=by
 unfold exXv
 refine Spec.go [] Tryz.func230 rfl rfl (by kernel_rfl) fun C _=>?_
 try simp(maxSteps:=999999) (disch:=omega) only[go_sem,ξ,ζ]
 refine caN (by exact Kids_x) ?_;rintro v1 h1 s1 rfl
 try simp(maxSteps:=999999) (disch:=omega) only[go_sem,ξ,ζ]
 refine caN (by exact IsName_spec) ?_;rintro v2 h2 s2 rfl
 try simp(maxSteps:=999999) (disch:=omega) only[go_sem,ξ,ζ,nameX]
 refine caN (by exact rH (N32.zero h2)) ?_;rintro v3 h3 s3 q3
 try simp(maxSteps:=999999) (disch:=omega) only[go_sem,ξ,ζ]
 refine caN (by exact bU q3) ?_;rintro v4 h4 s4 rfl
 try simp(maxSteps:=999999) (disch:=omega) only[go_sem,ξ,ζ]
 all_goals rfl
theorem Fields_a {h:PH} {b:Nat}:Spec mach 230 #[exAv b] h (fun v _=>v=.bool true) NP:=by
 unfold exAv
 refine Spec.go [] Tryz.func230 rfl rfl (by kernel_rfl) fun C _=>?_
 try simp(maxSteps:=999999) (disch:=omega) only[go_sem,ξ,ζ]
 refine caN (by exact Kids_a) ?_;rintro v1 h1 s1 rfl
 try simp(maxSteps:=999999) (disch:=omega) only[go_sem,ξ,ζ,beq_self_eq_true]
 refine caN (by exact rH (N32.zero h1)) ?_;rintro v3 h3 s3 q3
 try simp(maxSteps:=999999) (disch:=omega) only[go_sem,ξ,ζ]
 refine caN (by exact bU q3) ?_;rintro v4 h4 s4 rfl
 try simp(maxSteps:=999999) (disch:=omega) only[go_sem,ξ,ζ]
 all_goals rfl
theorem Count_x {h:PH} {d n:Int} (hd:0≤d∧d≤30) (hn:0≤n∧n < 300):Spec mach 169 #[exXv,.int .i64 d,.int .i64 n] h (fun v _=>v=.int .i64 (n+1)) NP:=by
 have k:=fun {h:PH}=>Fields_x (h:=h)
 unfold exXv at k ⊢
 have e1:¬n+1 > 300:=by omega
 have e2:¬d > 30:=by omega
 refine Spec.go [] Tryz.func169 rfl rfl (by kernel_rfl) fun C _=>?_
 try simp(maxSteps:=999999) (disch:=omega) only[go_sem,ξ,ζ,e1,e2,decide_false]
 refine caN (by exact k) ?_;rintro v1 h1 s1 rfl
 try simp(maxSteps:=999999) (disch:=omega) only[go_sem,ξ,ζ]
 refine lp [] (fun _:Nat=>⟨[(2,.v (.int .i64 (n+1))),(24,.v (.int .i64 0)),(25,.v (.int .i64 0))],[]⟩) (fun _ _=>True) (fun _=>0) 0 ?_ trivial (by kernel_rfl) ?_
 ·try simp(maxSteps:=999999) (disch:=omega) only[go_sem,ξ,ζ]
  all_goals rfl
 rintro i h2 _
 try simp(maxSteps:=999999) (disch:=omega) only[go_sem,ξ,ζ]
theorem kC_at {h0:PH} {b:Nat} (hb:kC b h0):∀i,i < 2→∀(j:Nat) v,xC7[j]?=some v→h0.at ((⟨b,i*7,none⟩:Addr).add j)=some v:=fun i hi j v hv=>by
 have hj:j < 7:=(List.getElem?_eq_some_iff.1 hv).1
 unfold kC at hb
 have:(⟨b,i*7,none⟩:Addr).add j=⟨b,i*7+j,none⟩:=by
  unfold Addr.add;split
  ·rename_i e;rw[e];rfl
  ·rfl
 rw[this]
 have e:h0.at ⟨b,i*7+j,none⟩=(xC7 ++xC7)[i*7+j]?:=by simp[PH.at,hb]
 rw[e]
 rcases(show i=0∨i=1 by omega) with rfl |rfl
 ·rw[List.getElem?_append_left (by show 0*7+j < 7;omega)];simpa using hv
 ·rw[List.getElem?_append_right (by show 7≤1*7+j;omega)]
  show xC7[1*7+j - 7]?=_
  rw[show 1*7+j - 7=j by omega];exact hv
theorem Count_a {h0 h:PH} [Le h0 h] {b:Nat} (hb:kC b h0):Spec mach 169 #[exAv b,.int .i64 1,.int .i64 0] h (fun v _=>v=.int .i64 3) NP:=by
 have k:=fun {h:PH}=>Fields_a (h:=h) (b:=b)
 have hat:=kC_at hb
 unfold exAv at k ⊢
 refine Spec.go [] Tryz.func169 rfl rfl (by kernel_rfl) fun C _=>?_
 try simp(maxSteps:=999999) (disch:=omega) only[go_sem,ξ,ζ]
 refine caN (by exact k) ?_;rintro v1 h1 s1 rfl
 try simp(maxSteps:=999999) (disch:=omega) only[go_sem,ξ,ζ]
 refine lp [] (fun i:Nat=>⟨[(1,.v (.int .i64 1)),(2,.v (.int .i64 (i+1:Nat))),(23,.v (.slice (some ⟨b,0,none⟩) 2 2)),(24,.v (.int .i64 2)),(25,.v (.int .i64 i))],[]⟩) (fun i h'=>Le h0 h'∧i≤2) (fun i=>2 - i) 0 ?_ ⟨inferInstance,by decide⟩ (by kernel_rfl) ?_
 ·try simp(maxSteps:=999999) (disch:=omega) only[go_sem,ξ,ζ]
  all_goals (constructor<;>rfl)
 rintro i h2 ⟨le2,hi⟩
 by_cases hl:(i:Int) < 2
 ·have kx:=fun {h:PH}=>Count_x (h:=h) (d:=2) (n:=(i+1:Nat)) (by omega) (by omega)
  unfold exXv at kx
  have e3:¬((i+1:Nat):Int)+1 > 300:=by omega
  try simp(maxSteps:=999999) (disch:=omega) only[go_sem,ξ,ζ,hl,decide_true]
  refine Exists.intro [.int .i64 2,.int .i64 0,.bool false,.slice none 0 0,.slice none 0 0,.string ⟨#[120]⟩,.slice none 0 0] (And.intro rfl (And.intro (fun j v hj=>le2.sub.at (hat i (by omega) j v hj)) ?_))
  try simp(maxSteps:=999999) (disch:=omega) only[go_sem,ξ,ζ]
  refine caN (by exact kx) ?_;rintro v3 h3 s3 rfl
  try simp(maxSteps:=999999) (disch:=omega) only[go_sem,ξ,ζ,e3,decide_false]
  dsimp only[lpE];refine⟨i+1,?_,⟨inferInstance,by omega⟩,by omega⟩
  try simp(maxSteps:=999999) (disch:=omega) only[go_sem,ξ,ζ]
  all_goals rfl
 ·have e:i=2:=by omega
  subst e
  try simp(maxSteps:=999999) (disch:=omega) only[go_sem,ξ,ζ,hl,decide_false]
  all_goals rfl
theorem EValid_spec {h0 h:PH} [Le h0 h] {b:Nat} (hb:kC b h0):Spec mach 113 #[exAv b] h (fun v _=>v=.bool true) NP:=by
 have k:=fun {h} [Le h0 h]=>Count_a (h:=h) hb
 unfold exAv at k ⊢
 refine Spec.go [] Tryz.func113 rfl rfl (by kernel_rfl) fun C _=>?_
 try simp(maxSteps:=999999) (disch:=omega) only[go_sem,ξ,ζ]
 refine caN (by exact k) ?_;rintro v1 h1 s1 rfl
 try simp(maxSteps:=999999) (disch:=omega) only[go_sem,ξ,ζ]
theorem zC {h:PH} {a:Option Addr} {m c n:Nat} (r:N32 h (.slice a m c) n) (h0:n≠0) (h1:n < 4294967296):m=1∧∃ad,a=some ad∧h.at ad=some (.int .u32 n):=by
 have hW:W 4294967296 n=[n]:=by
  rw[W_pos (by decide) h0,qBi h1,Nat.div_eq_of_lt h1,ff]
 obtain⟨a',c',e,A⟩:=r
 rw[hW] at e A
 simp only[Value.slice.injEq,List.length_cons,List.length_nil] at e
 obtain⟨rfl,rfl,rfl⟩:=e
 obtain⟨ad,e1,e2⟩:=A.at_ 0 n rfl
 refine⟨rfl,ad,e1,?_⟩
 simpa[Addr.add] using e2
theorem E4 {h:PH} {a:Option Addr} {m c:Nat} (r:N32 h (.slice a m c) 0):m=0:=by
 obtain⟨a',c',e,A⟩:=r
 rw[ff] at e
 simp only[Value.slice.injEq,List.length_nil] at e
 exact e.2.1
end Go.Q
namespace Go.Q
open Go.Proofs Go.RowKit
set_option maxRecDepth 100000
set_option maxHeartbeats 8000000
theorem Vars_spec {h0 h:PH} [l0:Le h0 h] {b:Nat} (hb:kC b h0):Spec mach 114 #[exAv b] h (fun r h'=>∃ad c,r=.tuple #[.slice (some ad) 1 c,.int .i64 0]∧h'.at ad=some (.string ⟨#[120]⟩)) NP:=by
 refine⟨by kernel_rfl,fun w hw hg=>?_⟩
 have hb1:h b=some (xC7 ++xC7).toArray:=l0.sub _ _ hb
 obtain⟨T,f,hk⟩:=hw _ _ hb1
 have kV:∀m W,Below w.heap.size w W→CallsIn Fence.wide m Tryz.prog 113 #[exAv b] W fun e W'=>e=.returned (.bool true)∧Below W.heap.size W W':=fun m W hB=>by
  refine callsIn_wide.2 (((EValid_spec (h:=h) hb).run W (hw.below hB) hg).mono fun e W' hp=>?_)
  cases e with
  |returned v=>obtain⟨h',p1,_,_,_,rfl⟩:=hp;exact⟨rfl,p1⟩
  |panicked ch=>obtain⟨_,_,_,_,_,hp⟩:=hp;exact(hp:False).elim
  |outgrown=>exact(hp:False).elim
 refine(callsIn_wide.1 (vars_in ⟨(Array.getElem?_eq_some_iff.1 hk).1,T,f,hk⟩ kV)).mono fun e w' hp=>?_
 obtain⟨v,rfl,hr,hB⟩:=hp
 rcases hr.2 with⟨_,h1⟩ |⟨g,cap,cur,rfl,hge,hh,hn,_,hs,ht⟩
 ·cases h1
 ·have hgn:h g=none:=by
   cases e:h g with
   |none=>rfl
   |some cs=>have:=hw.lt e;omega
  refine⟨fun k=>if k=g then some cur else h k,hB,fun k cs hx=>?_,fun k cs hx=>?_,fun k hx=>?_,⟨g,0,none⟩,cap,rfl,?_⟩
  ·have hx:(if k=g then some cur else h k)=some cs:=hx
   by_cases e:k=g
   ·rw[if_pos e] at hx;cases hx;exact⟨_,_,e▸hh⟩
   ·rw[if_neg e] at hx;exact(hw.below hB) _ _ hx
  ·show(if k=g then some cur else h k)=some cs
   rw[if_neg (fun e=>by rw[e,hgn] at hx;cases hx)];exact hx
  ·have hx:(if k=g then some cur else h k)≠none:=hx
   by_cases e:k=g
   ·exact .inr (e▸hge)
   ·rw[if_neg e] at hx;exact .inl hx
  ·have e0:cur[0]?=some (.string ⟨#[120]⟩):=by
    have:=congrArg (·[0]?) ht
    simpa using this
   unfold PH.at
   simp[e0]
def x01:RI:=⟨false,0,0,false,1,0,false,false⟩
def l01:List Sd1:=[(⟨#[120]⟩,x01)]
theorem l01_ok:okB l01=true:=by decide+kernel
theorem l01_fnd:fnd l01 ⟨#[120]⟩=some 0:=by decide+kernel
theorem Ready_spec {h0 h:PH} [Le h0 h] {v:Value} {b:Nat} (hb:kC b h0) (hv:Boxv h0 v l01):Spec mach 55 #[exAv b,v,.int .i64 2] h (fun r _=>r=.int .i64 0) NP:=by
 have kE:=fun {h} [Le h0 h]=>EValid_spec (h:=h) hb
 have kB:=fun {h} [Le h0 h]=>BValid_spec (h:=h) hv
 have kN:=fun {h} [Le h0 h]=>Vars_spec (h:=h) hb
 have kI:=fun {h} [Le h0 h]=>Index_spec (h:=h) (s:=⟨#[120]⟩) hv
 rw[l01_ok] at kB
 rw[l01_fnd] at kI
 obtain⟨va,vm,vc,rfl⟩:=hv.sa
 unfold exAv at kE kN ⊢
 refine Spec.go [] Tryz.func55 rfl rfl (by kernel_rfl) fun C _=>?_
 try simp(maxSteps:=999999) (disch:=omega) only[go_sem,ξ,ζ]
 refine caN (by exact kE) ?_;rintro v1 h1 s1 rfl
 try simp(maxSteps:=999999) (disch:=omega) only[go_sem,ξ,ζ]
 refine caN (by exact kB) ?_;rintro v2 h2 s2 rfl
 try simp(maxSteps:=999999) (disch:=omega) only[go_sem,ξ,ζ]
 refine caN (by exact kN) ?_;rintro v3 h3 s3 ⟨ad,c,rfl,hat⟩
 try simp(maxSteps:=999999) (disch:=omega) only[go_sem,ξ,ζ]
 refine lp [] (fun i:Nat=>⟨[(1,.v (.slice va vm vc)),(31,.v (.slice (some ad) 1 c)),(32,.v (.int .i64 1)),(33,.v (.int .i64 i))],[]⟩) (fun i h'=>Le h0 h'∧h'.at ad=some (.string ⟨#[120]⟩)∧i≤1) (fun i=>1 - i) 0 ?_ ⟨inferInstance,hat,by decide⟩ (by kernel_rfl) ?_
 ·try simp(maxSteps:=999999) (disch:=omega) only[go_sem,ξ,ζ]
  all_goals rfl
 rintro i h4 ⟨le4,hat4,hi⟩
 by_cases hl:(i:Int) < 1
 ·obtain rfl:i=0:=by omega
  try simp(maxSteps:=999999) (disch:=omega) only[go_sem,ξ,ζ]
  refine aE hat4 ?_
  try simp(maxSteps:=999999) (disch:=omega) only[go_sem,ξ,ζ]
  refine caN (by exact kI) ?_;rintro v5 h5 s5 rfl
  try simp(maxSteps:=999999) (disch:=omega) only[go_sem,ξ,ζ]
  dsimp only[lpE];refine⟨1,?_,⟨inferInstance,s5.sub.at hat4,by omega⟩,by omega⟩
  ·try simp(maxSteps:=999999) (disch:=omega) only[go_sem,ξ,ζ]
   all_goals rfl
 ·try simp(maxSteps:=999999) (disch:=omega) only[go_sem,ξ,ζ,hl,decide_false]
end Go.Q
namespace Go.Q
open Go.Proofs Go.RowKit
set_option maxRecDepth 100000
set_option maxHeartbeats 8000000
theorem out01:x01.fin (Out.prec 2 (.ok (x01.set.hull (2:Int).toNat)))=.ok (.i (some 0) (some 1)):=by
 have e:x01.set=.i (some 0) (some 1):=by kernel_rfl
 have b:x01.big=false:=by decide+kernel
 have e1:gdown 0 2=0:=by decide+kernel
 have e2:gup 1 2=1:=by decide+kernel
 have e3:decide (NS.le 2048 (NS.i (some 0) (some 1)))=true:=by decide
 unfold RI.fin Out.prec
 rw[b,e]
 simp[NS.hull,bad,Out.fin,e1,e2,e3]
theorem out02:RI.fin2 (NS.i (some 0) (some 1)).ri (NS.i (some 0) (some 1)).ri (rnd 2 (NS.i (some 0) (some 1)).ri.set (NS.i (some 0) (some 1)).ri.set (.ok ((NS.i (some 0) (some 1)).ri.set.sum (NS.i (some 0) (some 1)).ri.set)))=.ok (.i (some 0) (some 2)):=by
 have l1:(NS.i (some 0) (some 1)).le 2048:=by decide
 have o1:(NS.i (some 0) (some 1)).ok:=by unfold NS.ok ordO;decide
 rw[NS.ri_set o1]
 unfold RI.fin2 rnd Out.prec
 rw[NS.ri_big l1]
 have e1:gdown (0+0) 2=0:=by decide+kernel
 have e2:gup (1+1) 2=2:=by decide+kernel
 have e3:decide (NS.le 2048 (NS.i (some 0) (some 2)))=true:=by decide
 simp[NS.sum,oadd,NS.void,bad,NS.hull,Out.fin,e1,e2,e3]
theorem Leaf_x {h0 h:PH} [Le h0 h] {v:Value} (hv:Boxv h0 v l01):Spec mach 115 #[exXv,v,.int .i64 2] h (fun r h'=>Ir h' r (.ok (.i (some 0) (some 1)))) NP:=by
 have kF:=fun {h} [Le h0 h]=>BFind_spec (h:=h) (s:=⟨#[120]⟩) hv
 unfold Fnd at kF
 rw[l01_fnd] at kF
 obtain⟨_,_,_,rfl⟩:=hv.sa
 unfold exXv
 refine Spec.go [] Tryz.func115 rfl rfl (by kernel_rfl) fun C _=>?_
 try simp(maxSteps:=999999) (disch:=omega) only[go_sem,ξ,ζ]
 refine caN (by exact kF) ?_;rintro v1 h1 s1 ⟨v2,x2,e2,rfl,q2⟩;obtain rfl:x2=(⟨#[120]⟩,x01):=(by cases e2;rfl);obtain⟨_,_,_,_,_,_,_,_,_,_,_,_,rfl,_,_⟩:=q2.sa
 try simp(maxSteps:=999999) (disch:=omega) only[go_sem,ξ,ζ]
 have kR:=fun {h} [Le h1 h]=>du (h:=h) (p:=2) q2
 rw[out01] at kR
 refine caN (by exact kR) ?_;rintro r h2 s2 r2;obtain⟨u,rfl,c2⟩:=r2;obtain⟨_,_,_,_,_,_,_,_,_,_,_,_,_,_,_,_,rfl,c3⟩:=c2.sa
 try simp(maxSteps:=999999) (disch:=omega) only[go_sem,ξ,ζ]
 exact⟨_,rfl,c3⟩
theorem Eval_x {h0 h:PH} [Le h0 h] {v:Value} (hv:Boxv h0 v l01):Spec mach 56 #[exXv,v,.int .i64 2] h (fun r h'=>Ir h' r (.ok (.i (some 0) (some 1)))) NP:=by
 have kL:=fun {h} [Le h0 h]=>Leaf_x (h:=h) hv
 obtain⟨_,_,_,rfl⟩:=hv.sa
 unfold exXv at kL ⊢
 refine Spec.go [] Tryz.func56 rfl rfl (by kernel_rfl) fun C _=>?_
 try simp(maxSteps:=999999) (disch:=omega) only[go_sem,ξ,ζ]
 refine caN (by exact kL) ?_;rintro r h2 s2 r2;obtain⟨u,rfl,c2⟩:=r2;obtain⟨_,_,_,_,_,_,_,_,_,_,_,_,_,_,_,_,rfl,c3⟩:=c2.sa
 try simp(maxSteps:=999999) (disch:=omega) only[go_sem,ξ,ζ]
 exact⟨_,rfl,c3⟩
theorem Kid_x {h0 h:PH} [Le h0 h] {v:Value} {b1 b2:Nat} (hv:Boxv h0 v l01) (hb1:h0 b1=some #[v]) (hb2:h0 b2=some #[.int .i64 2]):Spec mach 117 #[exXv,.pointer (some ⟨b1,0,none⟩),.pointer (some ⟨b2,0,none⟩)] h (fun r h'=>Ir h' r (.ok (.i (some 0) (some 1)))) NP:=by
 have kL:=fun {h} [Le h0 h]=>Eval_x (h:=h) hv
 have hb1:=(inferInstance:Le h0 h).sub _ _ hb1
 have hb2:=(inferInstance:Le h0 h).sub _ _ hb2
 obtain⟨_,_,_,rfl⟩:=hv.sa
 unfold exXv at kL ⊢
 refine Spec.go [] Tryz.func117 rfl rfl (by kernel_rfl) fun C _=>?_
 try simp(maxSteps:=999999) (disch:=omega) only[go_sem,ξ,ζ]
 refine aE (aK hb1) ?_
 try simp(maxSteps:=999999) (disch:=omega) only[go_sem,ξ,ζ]
 refine aE (aK hb2) ?_
 try simp(maxSteps:=999999) (disch:=omega) only[go_sem,ξ,ζ]
 refine caN (by exact kL) ?_;rintro r h2 s2 r2;obtain⟨u,rfl,c2⟩:=r2;obtain⟨_,_,_,_,_,_,_,_,_,_,_,_,_,_,_,_,rfl,c3⟩:=c2.sa
 try simp(maxSteps:=999999) (disch:=omega) only[go_sem,ξ,ζ]
 exact⟨_,rfl,c3⟩
def q01 (h:PH) (cs:List Value) (_:Unit):Prop:=Cv h (.agg cs.toArray) (.i (some 0) (some 1))
theorem Comb_a {h0 h:PH} [Le h0 h] {v:Value} {b b1 b2:Nat} (hb:kC b h0) (hv:Boxv h0 v l01) (hb1:h0 b1=some #[v]) (hb2:h0 b2=some #[.int .i64 2]):Spec mach 116 #[exAv b,.int .i64 2,.func (.func 117) #[] #[.pointer (some ⟨b1,0,none⟩),.pointer (some ⟨b2,0,none⟩)]] h (fun r h'=>Ir h' r (.ok (.i (some 0) (some 2)))) NP:=by
 have kK:=fun {h} [Le h0 h]=>Kid_x (h:=h) hv hb1 hb2
 unfold exAv exXv at*
 refine Spec.go [(10,.x),(22,.o [0,1,2,3,4,5,6,7,8,9,10,11])] Tryz.func116 rfl rfl (by kernel_rfl) fun C _=>?_
 try simp(maxSteps:=999999) (disch:=omega) only[go_sem,ξ,ζ]
 refine lpSl [(10,.x),(22,.o [0,1,2,3,4,5,6,7,8,9,10,11])] (fun x:Option (Nat×Nat×List Value)=>match x with |none=>⟨[(1,.v (.int .i64 2)),(2,.v (.func (.func 117) #[] #[.pointer (some ⟨b1,0,none⟩),.pointer (some ⟨b2,0,none⟩)])),(3,.p 0 0),(6,.p 1 0),(7,.v (.int .i64 0)),(22,.v (.slice (some ⟨b,0,none⟩) 2 2)),(23,.v (.int .i64 (2:Nat))),(8,.v (.slice none 0 0)),(24,.v (.int .i64 0))],[[.int .i64 5,.int .i64 0,.bool false,.slice none 0 0,.slice none 0 0,.string ⟨#[]⟩,.slice (some ⟨b,0,none⟩) 2 2],[.bool false,.slice none 0 0,.slice none 0 0,.bool false,.slice none 0 0,.slice none 0 0,.bool false,.bool false]]⟩ |some x=>⟨[(1,.v (.int .i64 2)),(2,.v (.func (.func 117) #[] #[.pointer (some ⟨b1,0,none⟩),.pointer (some ⟨b2,0,none⟩)])),(3,.p 0 0),(6,.p 1 0),(7,.v (.int .i64 0)),(22,.v (.slice (some ⟨b,0,none⟩) 2 2)),(23,.v (.int .i64 (2:Nat))),(8,.s 2 0 x.1 x.2.1),(24,.v (.int .i64 x.1))],[[.int .i64 5,.int .i64 0,.bool false,.slice none 0 0,.slice none 0 0,.string ⟨#[]⟩,.slice (some ⟨b,0,none⟩) 2 2],[.bool false,.slice none 0 0,.slice none 0 0,.bool false,.slice none 0 0,.slice none 0 0,.bool false,.bool false],x.2.2]⟩) (fun x h'=>Le h0 h'∧match x with |none=>True |some x=>1≤x.1∧x.1≤2∧x.1≤x.2.1∧x.2.1*8=x.2.2.length∧RowOf 8 (q01 h') x.2.2 (List.replicate x.1 ())) (fun x=>match x with |none=>2 |some x=>2 - x.1) none [0,1] ?_ ⟨inferInstance,trivial⟩ (by kernel_rfl) ?_
 ·try simp(maxSteps:=999999) (disch:=omega) only[go_sem,ξ,ζ]
  all_goals rfl
 rintro(_ |⟨i,cap,row⟩) h2 ⟨le2,hr⟩
 ·have hl:(0:Int) < ((2:Nat):Int):=by decide
  dsimp only
  try simp(maxSteps:=999999) (disch:=omega) only[go_sem,ξ,ζ,hl,decide_true]
  refine Exists.intro [_,_,_,_,_,_,_] (And.intro rfl (And.intro (fun j v hj=>le2.sub.at (kC_at hb 0 (by decide) j v hj)) ?_))
  try simp(maxSteps:=999999) (disch:=omega) only[go_sem,ξ,ζ]
  refine caN (by exact kK) ?_;rintro r h3 s3 r3;obtain⟨u,rfl,c3⟩:=r3;obtain⟨x1,x2,x3,x4,x5,x6,x7,x8,x9,x10,x11,x12,x13,x14,x15,x16,rfl,c3⟩:=c3.sa
  try simp(maxSteps:=999999) (disch:=omega) only[go_sem,ξ,ζ]
  refine AWP_app (sz:=8) [.o 0,.o 1,.o 2] 3 [.o 4] rfl (by kernel_rfl) (by kernel_rfl) (by rfl) (by decide) rfl rfl ?_
  try simp(maxSteps:=999999) (disch:=omega) only[go_sem,ξ,ζ,walk,appN,Nat.reduceMul]
  intro cap junk hc hj
  have hR:RowOf 8 (q01 h3) ([.bool x1,.slice x2 x3 x4,.slice x5 x6 x7,.bool x8,.slice x9 x10 x11,.slice x12 x13 x14,.bool x15,.bool x16] ++junk) (List.replicate 1 ()):=(RowOf.nil (sz:=8) (Q:=q01 h3) (row:=[])).app (cs:=[.bool x1,.slice x2 x3 x4,.slice x5 x6 x7,.bool x8,.slice x9 x10 x11,.slice x12 x13 x14,.bool x15,.bool x16]) (s:=()) rfl c3 junk
  dsimp only[lpS]
  refine⟨some (1,cap,[.bool x1,.slice x2 x3 x4,.slice x5 x6 x7,.bool x8,.slice x9 x10 x11,.slice x12 x13 x14,.bool x15,.bool x16] ++junk),[0,1,5],?_,⟨inferInstance,η 1,Nat.le_succ 1,hc,by simp;omega,hR⟩,η 2⟩
  try simp(maxSteps:=999999) (disch:=omega) only[go_sem,ξ,ζ]
  all_goals rfl
 ·obtain⟨g1,g2,g3,g4,g5⟩:=hr
  dsimp only at g1 g2 g3 g4 g5 ⊢
  by_cases hl:(i:Int) < ((2:Nat):Int)
  ·obtain rfl:i=1:=by omega
   try simp(maxSteps:=999999) (disch:=omega) only[go_sem,ξ,ζ,hl,decide_true]
   refine Exists.intro [_,_,_,_,_,_,_] (And.intro rfl (And.intro (fun j v hj=>le2.sub.at (kC_at hb 1 (by decide) j v hj)) ?_))
   try simp(maxSteps:=999999) (disch:=omega) only[go_sem,ξ,ζ]
   refine caN (by exact kK) ?_;rintro r h3 s3 r3;obtain⟨u,rfl,c3⟩:=r3;obtain⟨x1,x2,x3,x4,x5,x6,x7,x8,x9,x10,x11,x12,x13,x14,x15,x16,rfl,c3⟩:=c3.sa
   try simp(maxSteps:=999999) (disch:=omega) only[go_sem,ξ,ζ]
   refine AWP_app (sz:=8) [.o 0,.o 1,.o 2] 3 [.o 4] rfl (by kernel_rfl) (by kernel_rfl) (by rfl) (by decide) rfl rfl ?_
   try simp(maxSteps:=999999) (disch:=omega) only[go_sem,ξ,ζ,walk,appN,Nat.reduceMul]
   intro cap' junk hc hj
   have hR:RowOf 8 (q01 h3) (row.take 8 ++[.bool x1,.slice x2 x3 x4,.slice x5 x6 x7,.bool x8,.slice x9 x10 x11,.slice x12 x13 x14,.bool x15,.bool x16] ++junk) (List.replicate 2 ()):=(g5.mono fun cs s (k:Cv h2 _ _)=>(k.to:Cv h3 _ _)).app (cs:=[.bool x1,.slice x2 x3 x4,.slice x5 x6 x7,.bool x8,.slice x9 x10 x11,.slice x12 x13 x14,.bool x15,.bool x16]) (s:=()) rfl c3 junk
   dsimp only[lpS]
   refine⟨some (2,cap',row.take 8 ++[.bool x1,.slice x2 x3 x4,.slice x5 x6 x7,.bool x8,.slice x9 x10 x11,.slice x12 x13 x14,.bool x15,.bool x16] ++junk),[0,1,6],?_,⟨inferInstance,Nat.le_succ 1,η 2,hc,by simp;omega,hR⟩,η 1⟩
   try simp(maxSteps:=999999) (disch:=omega) only[go_sem,ξ,ζ]
   all_goals rfl
  ·obtain rfl:i=2:=by omega
   try simp(maxSteps:=999999) (disch:=omega) only[go_sem,ξ,ζ,hl,decide_false]
   have c1:Cv h2 (.agg (List.take 8 (List.drop (0*8) row)).toArray) (.i (some 0) (some 1)):=g5.2 0 () rfl
   have c2:Cv h2 (.agg (List.take 8 (List.drop (Int.toNat 1*8) row)).toArray) (.i (some 0) (some 1)):=g5.2 1 () rfl
   have kA:=fun {h} [Le h2 h]=>jf (h:=h) (p:=2) (c1.iv (by decide)) (c2.iv (by decide))
   rw[out02] at kA
   refine caN (by exact kA) ?_;rintro r h3 s3 r3;obtain⟨u,rfl,c3⟩:=r3;obtain⟨_,_,_,_,_,_,_,_,_,_,_,_,_,_,_,_,rfl,c3⟩:=c3.sa
   try simp(maxSteps:=999999) (disch:=omega) only[go_sem,ξ,ζ]
   exact⟨_,rfl,c3⟩
theorem Eval_a {h0 h:PH} [Le h0 h] {v:Value} {b:Nat} (hb:kC b h0) (hv:Boxv h0 v l01):Spec mach 56 #[exAv b,v,.int .i64 2] h (fun r h'=>Ir h' r (.ok (.i (some 0) (some 2)))) NP:=by
 have hv0:=hv
 obtain⟨_,_,_,rfl⟩:=hv.sa
 have hb0:=hb
 unfold exAv
 refine Spec.go [(3,.t (.s [0,1] (.p 1 (.p 2 (.s [2,3,4,5,6,7] .d)))))] Tryz.func56 rfl rfl (by kernel_rfl) fun C _=>?_
 try simp(maxSteps:=999999) (disch:=omega) only[go_sem,ξ,ζ]
 intro b1 h1 st1 hb1
 try simp(maxSteps:=999999) (disch:=omega) only[go_sem,ξ,ζ]
 intro b2 h2 st2 hb2
 try simp(maxSteps:=999999) (disch:=omega) only[go_sem,ξ,ζ]
 have hb1:=st2.sub _ _ (hb1 (by simp))
 have hb2:=hb2 (by simp)
 have kC2:=fun {h} [Le h2 h]=>Comb_a (h:=h) ((inferInstance:Le h0 h2).sub _ _ hb0) (hv0.to (h':=h2)) hb1 hb2
 unfold exAv at kC2
 refine caN (by exact kC2) ?_;rintro r h3 s3 r3;obtain⟨u,rfl,c3⟩:=r3;obtain⟨_,_,_,_,_,_,_,_,_,_,_,_,_,_,_,_,rfl,c3⟩:=c3.sa
 try simp(maxSteps:=999999) (disch:=omega) only[go_sem,ξ,ζ]
 exact⟨_,rfl,c3⟩
theorem Range_a {h0 h:PH} [Le h0 h] {v:Value} {b:Nat} (hb:kC b h0) (hv:Boxv h0 v l01):Spec mach 19 #[exAv b,v,.int .i64 2] h (fun r h'=>Ir h' r (.ok (.i (some 0) (some 2)))) NP:=by
 have kR:=fun {h} [Le h0 h]=>Ready_spec (h:=h) hb hv
 have kE:=fun {h} [Le h0 h]=>Eval_a (h:=h) hb hv
 obtain⟨_,_,_,rfl⟩:=hv.sa
 unfold exAv at*
 refine Spec.go [] Tryz.func19 rfl rfl (by kernel_rfl) fun C _=>?_
 try simp(maxSteps:=999999) (disch:=omega) only[go_sem,ξ,ζ]
 refine caN (by exact kR) ?_;rintro v1 h1 s1 rfl
 try simp(maxSteps:=999999) (disch:=omega) only[go_sem,ξ,ζ]
 refine caN (by exact kE) ?_;rintro r h3 s3 r3;obtain⟨u,rfl,c3⟩:=r3;obtain⟨_,_,_,_,_,_,_,_,_,_,_,_,_,_,_,_,rfl,c3⟩:=c3.sa
 try simp(maxSteps:=999999) (disch:=omega) only[go_sem,ξ,ζ]
 exact⟨_,rfl,c3⟩
theorem awake05_spec {h:PH}:Spec mach 14 #[] h (fun r _=>r=.bool true) NP:=by
 refine Spec.go [(3,.t (.p 1 (.s [0,1,2] (.p 2 (.s [3,4,5,6,7,8,9,10,11] .d)))))] Tryz.func14 rfl rfl (by kernel_rfl) fun C _=>?_
 try simp(maxSteps:=999999) (disch:=omega) only[go_sem,ξ,ζ]
 refine caN (by exact aF (n:=1) (by decide) (by decide)) ?_;rintro _ h1 _ f1;obtain⟨_,_,_,_,_,_,_,rfl,f1⟩:=f1.sa
 try simp(maxSteps:=999999) (disch:=omega) only[go_sem,ξ,ζ]
 refine caN (by exact cA f1 (by decide)) ?_;rintro _ h2 _ f2;obtain⟨v2_0,v2_1,v2_2,v2_3,v2_4,v2_5,v2_6,rfl,f2⟩:=f2.sa
 try simp(maxSteps:=999999) (disch:=omega) only[go_sem,ξ,ζ,Nat.reduceMul]
 intro bs h3 st3 hbs
 try simp(maxSteps:=999999) (disch:=omega) only[go_sem,ξ,ζ]
 have hbs:=hbs (by simp)
 intro bk h4 st4 hbk
 try simp(maxSteps:=999999) (disch:=omega) only[go_sem,ξ,ζ]
 have hbk:kC bk h4:=hbk (by simp)
 have hat:∀j v,([.string ⟨#[120]⟩,.bool false,.slice none 0 0,.slice none 0 0,.bool v2_0,.slice v2_1 v2_2 v2_3,.slice v2_4 v2_5 v2_6,.bool false,.bool false]:List Value)[j]?=some v→h4.at (((⟨bs,0,none⟩:Addr).add 0).add j)=some v:=fun j v hj=>by
  refine st4.sub.at ?_
  rw[at_off hbs,Nat.zero_add]
  simpa using hj
 have hv:Boxv h4 (.slice (some ⟨bs,0,none⟩) 1 1) l01:=⟨_,_,rfl,by decide,fun i s hi=>by
  have hi1:i < 1:=(List.getElem?_eq_some_iff.1 hi).1
  obtain rfl:i=0:=by omega
  cases hi
  refine⟨_,_,_,_,_,_,_,_,_,_,_,_,_,_,_,_,_,rfl,hat,?_⟩
  have c1:Cv h4 (.agg #[.bool false,.slice none 0 0,.slice none 0 0,.bool v2_0,.slice v2_1 v2_2 v2_3,.slice v2_4 v2_5 v2_6,.bool false,.bool false]) (.i (some 0) (some 1)):=⟨_,_,_,_,_,_,rfl,Cn.zero h4,by simpa using f2.to (h':=h4)⟩
  exact c1.iv (by decide)⟩
 have kR:=fun {h} [Le h4 h]=>Range_a (h:=h) hbk hv
 have kV:=fun {h} [Le h4 h]=>BValid_spec (h:=h) hv
 rw[l01_ok] at kV
 unfold exAv at kR
 refine caN (by exact kR) ?_;rintro r h5 s5 r5;obtain⟨u,rfl,c5⟩:=r5;obtain⟨d1,w1,w2,w3,w4,w5,w6,d2,w7,w8,w9,w10,w11,w12,rfl,p1,p2⟩:=c5.fl
 try simp(maxSteps:=999999) (disch:=omega) only[go_sem,ξ,ζ]
 have p1:Cn h5 _ 0:=p1
 have p2:Cn h5 _ 2:=p2
 obtain⟨sn,sd,e1,n1,n2⟩:=p1
 obtain⟨sn',sd',e2,n3,n4⟩:=p2
 simp only[Value.agg.injEq,Array.mk.injEq,List.cons.injEq,and_true] at e1 e2
 obtain⟨_,rfl,rfl⟩:=e1
 obtain⟨_,rfl,rfl⟩:=e2
 have:=E4 (by simpa using n1)
 subst this
 obtain⟨rfl,ad',rfl,t2⟩:=zC (n:=2) n3 (by decide) (by decide)
 have:=E4 (by simpa using n4)
 subst this
 try simp(maxSteps:=999999) (disch:=omega) only[go_sem,ξ,ζ]
 refine aE t2 ?_
 try simp(maxSteps:=999999) (disch:=omega) only[go_sem,ξ,ζ]
 refine caN (by exact kV) ?_;rintro v6 h6 s6 rfl
 try simp(maxSteps:=999999) (disch:=omega) only[go_sem,ξ,ζ]
 all_goals rfl
end Go.Q
namespace Go.Q
open Go.Proofs
set_option maxRecDepth 100000
set_option maxHeartbeats 8000000
theorem okB_six {b:List Sd1} (h:okB b=true):b.length≤6:=by
 unfold okB at h
 rw[φ] at h
 exact of_decide_eq_true h.1
theorem RCenter_spec {h0 h:PH} [Le h0 h] {v:Value} {l:List Sd1} (hv:Boxv h0 v l):Spec mach 31 #[v] h (fun r h'=>CenR h' r l) NP:=by
 have kV:=fun {h} [Le h0 h]=>RBValid_spec (h:=h) hv
 unfold CenR CenV
 cases hok:okB l with
 | false=>
  rw[hok] at kV
  obtain⟨_,_,_,rfl⟩:=hv.sa
  refine Spec.go [(10,.x),(12,.x)] Tryz.func31 rfl rfl (by kernel_rfl) fun C _=>?_
  try simp(maxSteps:=999999) (disch:=omega) only[go_sem,ξ,ζ]
  refine caN (by exact kV) ?_;rintro v1 h1 s1 rfl
  try simp(maxSteps:=999999) (disch:=omega) only[go_sem,ξ,ζ]
  all_goals rfl
 | true=>
  rw[hok] at kV
  have h6:=okB_six hok
  obtain⟨a,c,rfl,hl,k⟩:=hv.side
  refine Spec.go [(10,.x),(12,.x)] Tryz.func31 rfl rfl (by kernel_rfl) fun C _=>?_
  try simp(maxSteps:=999999) (disch:=omega) only[go_sem,ξ,ζ]
  refine caN (by exact kV) ?_;rintro v1 h1 s1 rfl
  try simp(maxSteps:=999999) (disch:=omega) only[go_sem,ξ,ζ]
  refine lpSl [(10,.x),(12,.x)] (fun x:Option (Nat×Nat×List Value)=>match x with |none=>⟨[(4,.v (.slice none 0 0)),(12,.v (.slice a l.length c)),(13,.v (.int .i64 l.length)),(14,.v (.int .i64 0))],[]⟩ |some x=>⟨[(4,.s 0 0 x.1 x.2.1),(12,.v (.slice a l.length c)),(13,.v (.int .i64 l.length)),(14,.v (.int .i64 x.1))],[x.2.2]⟩) (fun x h'=>Le h0 h'∧match x with |none=>True |some x=>1≤x.1∧x.1≤l.length∧x.1≤x.2.1∧x.2.1*4=x.2.2.length∧RowOf 4 (Qc h') x.2.2 ((l.take x.1).map cq)∧∀j x',j < x.1→l[j]?=some x'→decide (sz (midQ x'.2.set)≤2048)=true) (fun x=>match x with |none=>l.length |some x=>l.length - x.1) none [] ?_ ⟨inferInstance,trivial⟩ (by kernel_rfl) ?_
  ·try simp(maxSteps:=999999) (disch:=omega) only[go_sem,ξ,ζ]
   all_goals rfl
  rintro(_ |⟨i,cap,row⟩) h2 ⟨le2,hr0⟩
  ·dsimp only
   by_cases hl:(0:Int) < (l.length:Int)
   ·obtain⟨x,hx⟩:∃x,l[0]?=some x:=⟨_,List.getElem?_eq_getElem (by omega)⟩
    obtain⟨ad,a1,m1,c1,a2,m2,c2,a3,m3,c3,a4,m4,c4,rfl,hat,r1,r2,hiv⟩:=k 0 x hx
    have gb:=okB_big hok hx
    have gv:=okB_void hok hx
    have kM:=IN (h0:=h2) (h:=h2) hiv.to
    unfold midO at kM
    rw[gb,cond_false,gv,cond_false] at kM
    try simp(maxSteps:=999999) (disch:=omega) only[go_sem,ξ,ζ,hl,decide_true]
    refine Exists.intro [_,_,_,_,_,_,_,_,_] (And.intro rfl (And.intro (fun j v hj=>le2.sub.at (hat j v hj)) ?_))
    try simp(maxSteps:=999999) (disch:=omega) only[go_sem,ξ,ζ]
    cases hs:decide (sz (midQ x.2.set)≤2048) with
    | false=>
     rw[hs,cond_false] at kM
     unfold Qo zRat at kM
     rw[show cenOk l=false from List.all_eq_false.2 ⟨x,List.mem_of_getElem? hx,by rw[hs];decide⟩]
     refine caN (by exact kM) ?_;rintro r h3 s3 r3;subst r3
     try simp(maxSteps:=999999) (disch:=omega) only[go_sem,ξ,ζ]
     all_goals rfl
    | true=>
     rw[hs,cond_true] at kM
     refine caN (by exact kM) ?_;rintro r h3 s3 r3;obtain⟨u,rfl,c5⟩:=r3;obtain⟨m_0,m_1,m_2,m_3,m_4,m_5,m_6,rfl,c5⟩:=c5.sa
     try simp(maxSteps:=999999) (disch:=omega) only[go_sem,ξ,ζ]
     refine apO (sz:=4) [0,1,2,3,4,5] 6 [7] rfl (by kernel_rfl) (by kernel_rfl) (by kernel_rfl) (by decide) (by kernel_rfl) (by kernel_rfl) ?_
     try simp(maxSteps:=999999) (disch:=omega) only[go_sem,ξ,ζ,appN,Nat.reduceMul]
     intro cap junk hc hj
     have hR:RowOf 4 (Qc h3) ([.string x.1,.bool m_0,.slice m_1 m_2 m_3,.slice m_4 m_5 m_6] ++junk) ((l.take 1).map cq):=by
      rw[map_take hx]
      exact(RowOf.nil (sz:=4) (Q:=Qc h3) (row:=[])).app (cs:=[.string x.1,.bool m_0,.slice m_1 m_2 m_3,.slice m_4 m_5 m_6]) (s:=cq x) rfl ⟨_,rfl,rfl,c5⟩ junk
     have hA0:∀j x',j < 1→l[j]?=some x'→decide (sz (midQ x'.2.set)≤2048)=true:=fun j x' q hx'=>by
      obtain rfl:j=0:=by omega
      rw[hx] at hx';cases hx';exact hs
     dsimp only[lpS]
     refine⟨some (1,cap,[.string x.1,.bool m_0,.slice m_1 m_2 m_3,.slice m_4 m_5 m_6] ++junk),[3],?_,⟨inferInstance,η 1,by show 1≤l.length;omega,hc,by simp;omega,hR,fun j x' (q:j < 1) hx'=>hA0 j x' q hx'⟩,by show l.length - 1 < l.length;omega⟩
     try simp(maxSteps:=999999) (disch:=omega) only[go_sem,ξ,ζ]
     all_goals rfl
   ·have e:l=[]:=List.length_eq_zero_iff.1 (by omega)
    rw[show cenOk l=true by rw[e];rfl]
    try simp(maxSteps:=999999) (disch:=omega) only[go_sem,ξ,ζ,hl,decide_false]
    refine rn [] (by kernel_rfl) ?_
    try simp(maxSteps:=999999) (disch:=omega) only[go_sem,ξ,ζ]
    subst e
    exact⟨_,rfl,_,_,rfl,fun i s hi=>by simp at hi⟩
  ·obtain⟨g1,g2,g3,g4,g5,g6⟩:=hr0
   dsimp only at g1 g2 g3 g4 g5 g6 ⊢
   by_cases hl:(i:Int) < (l.length:Int)
   ·obtain⟨x,hx⟩:∃x,l[i]?=some x:=⟨_,List.getElem?_eq_getElem (by omega)⟩
    obtain⟨ad,a1,m1,c1,a2,m2,c2,a3,m3,c3,a4,m4,c4,rfl,hat,r1,r2,hiv⟩:=k i x hx
    have gb:=okB_big hok hx
    have gv:=okB_void hok hx
    have kM:=IN (h0:=h2) (h:=h2) hiv.to
    unfold midO at kM
    rw[gb,cond_false,gv,cond_false] at kM
    try simp(maxSteps:=999999) (disch:=omega) only[go_sem,ξ,ζ,hl,decide_true]
    refine Exists.intro [_,_,_,_,_,_,_,_,_] (And.intro rfl (And.intro (fun j v hj=>le2.sub.at (hat j v hj)) ?_))
    try simp(maxSteps:=999999) (disch:=omega) only[go_sem,ξ,ζ]
    cases hs:decide (sz (midQ x.2.set)≤2048) with
    | false=>
     rw[hs,cond_false] at kM
     unfold Qo zRat at kM
     rw[show cenOk l=false from List.all_eq_false.2 ⟨x,List.mem_of_getElem? hx,by rw[hs];decide⟩]
     refine caN (by exact kM) ?_;rintro r h3 s3 r3;subst r3
     try simp(maxSteps:=999999) (disch:=omega) only[go_sem,ξ,ζ]
     all_goals rfl
    | true=>
     rw[hs,cond_true] at kM
     refine caN (by exact kM) ?_;rintro r h3 s3 r3;obtain⟨u,rfl,c5⟩:=r3;obtain⟨m_0,m_1,m_2,m_3,m_4,m_5,m_6,rfl,c5⟩:=c5.sa
     try simp(maxSteps:=999999) (disch:=omega) only[go_sem,ξ,ζ]
     refine apO (sz:=4) [0,1,2,3,4,5] 6 [7] rfl (by kernel_rfl) (by kernel_rfl) (by kernel_rfl) (by decide) (by kernel_rfl) (by kernel_rfl) ?_
     try simp(maxSteps:=999999) (disch:=omega) only[go_sem,ξ,ζ,appN,Nat.reduceMul]
     intro cap' junk hc hj
     have hR:RowOf 4 (Qc h3) (row.take (i*4) ++[.string x.1,.bool m_0,.slice m_1 m_2 m_3,.slice m_4 m_5 m_6] ++junk) ((l.take (i+1)).map cq):=by
      rw[map_take hx]
      have:=(g5.mono fun cs s (q:Qc h2 cs s)=>(let ⟨ds,e1,e2,e3⟩:=q;⟨ds,e1,e2,e3.to⟩:Qc h3 cs s)).app (cs:=[.string x.1,.bool m_0,.slice m_1 m_2 m_3,.slice m_4 m_5 m_6]) (s:=cq x) rfl ⟨_,rfl,rfl,c5⟩ junk
      rw[List.length_map,List.length_take,Nat.min_eq_left (by omega)] at this
      exact this
     have hA:∀j x',j < i+1→l[j]?=some x'→decide (sz (midQ x'.2.set)≤2048)=true:=fun j x' q hx'=>by
      rcases qBj j i with g |g
      ·exact g6 j x' g hx'
      ·obtain rfl:j=i:=by omega
       rw[hx] at hx';cases hx';exact hs
     dsimp only[lpS]
     refine⟨some (i+1,cap',row.take (i*4) ++[.string x.1,.bool m_0,.slice m_1 m_2 m_3,.slice m_4 m_5 m_6] ++junk),[4],?_,⟨inferInstance,by show 1≤i+1;omega,by show i+1≤_;omega,hc,by simp;omega,hR,hA⟩,by show l.length - (i+1) < l.length - i;omega⟩
     try simp(maxSteps:=999999) (disch:=omega) only[go_sem,ξ,ζ]
     all_goals rfl
   ·obtain rfl:i=l.length:=by omega
    rw[List.take_length] at g5
    rw[cenOk_yes g6]
    try simp(maxSteps:=999999) (disch:=omega) only[go_sem,ξ,ζ,hl,decide_false]
    refine rn [(12,.t (.p 0 (.s [0,1,2] .d)))] (by kernel_rfl) ?_
    try simp(maxSteps:=999999) (disch:=omega) only[go_sem,ξ,ζ]
    intro b h3 st3 hb
    try simp(maxSteps:=999999) (disch:=omega) only[go_sem,ξ,ζ]
    have hb:=hb (fun e=>by rw[e] at g4;simp at g4;omega)
    have:=Pcx.of (c:=cap) hb (g5.mono fun cs s (q:Qc h2 cs s)=>(let ⟨ds,e1,e2,e3⟩:=q;⟨ds,e1,e2,e3.to⟩:Qc h3 cs s))
    rw[List.length_map] at this
    exact⟨_,rfl,this⟩
def cpv (x:Sd1):Pv1:=(x.1,decide ((midQ x.2.set).num < 0),(midQ x.2.set).num.natAbs,if (midQ x.2.set).den=1 then 0 else (midQ x.2.set).den)
theorem Pcx.pt {h:PH} {v:Value} {l:List Sd1} (hl:l.length≤6) (hc:cenOk l=true) (r:Pcx h v (l.map cq)):Ptv h v (l.map cpv):=by
 obtain⟨a,c,rfl,k⟩:=r
 refine⟨a,c,by simp,by simp;omega,fun i s hi=>?_⟩
 rw[List.getElem?_map,Option.map_eq_some_iff] at hi
 obtain⟨x,hx,rfl⟩:=hi
 obtain⟨ad,_,h1,⟨ds,rfl,e2,e3⟩,h3⟩:=k i (cq x) (by rw[List.getElem?_map,hx];rfl)
 have hz:sz (midQ x.2.set)≤2^30:=by
  have:=qBd.1 hc x (List.mem_of_getElem? hx)
  have:=of_decide_eq_true this
  omega
 have r:=Cn.rw e3 hz
 obtain⟨b,a1,m1,c1,a2,m2,c2,e4,r⟩:=r.sa
 obtain⟨_,_,_,_,_,_,e5,_⟩:=r
 cases e5
 match ds,e2 with
 | [d0,d1,d2],_=>
  cases e4
  exact⟨ad,_,_,_,_,_,_,h1,h3,Cn.rw e3 hz⟩
theorem bytes_refl (s:ByteArray):(s.toList == s.toList)=true:=by simp
theorem cen_ok {l:List Sd1} (hb:okB l=true) (hc:cenOk l=true):okP (l.map cpv)=true:=by
 refine okP_yes fun j hj=>?_
 rw[List.length_map] at hj
 obtain⟨x,hx⟩:∃x,l[j]?=some x:=⟨_,List.getElem?_eq_getElem hj⟩
 have hs:okS l j=true:=by
  unfold okB at hb
  rw[φ] at hb
  exact qBd.1 hb.2 j (List.mem_range.2 hj)
 have hz:¬lg (cpv x).2.1 (cpv x).2.2.1 (cpv x).2.2.2:=by
  have:=of_decide_eq_true (qBd.1 hc x (List.mem_of_getElem? hx))
  unfold cpv
  rw[lg_cn]
  omega
 unfold okS at hs
 rw[hx] at hs
 unfold okP1
 rw[List.getElem?_map,hx]
 simp only[Option.map_some,List.getElem?_map,φ] at hs ⊢
 refine⟨⟨hs.1.1.1,?_⟩,by simpa using hz⟩
 have h2:=hs.1.1.2
 cases e:l[j - 1]? with
 |none=>simp
 |some y=>rw[e] at h2;exact h2
theorem cen_in {l:List Sd1} (hb:okB l=true):inB l (l.map cpv)=true:=by
 refine inB_yes (by simp) fun j hj=>?_
 rw[List.length_map] at hj
 obtain⟨x,hx⟩:∃x,l[j]?=some x:=⟨_,List.getElem?_eq_getElem hj⟩
 unfold inS
 rw[List.getElem?_map,hx]
 show(x.1.toList == x.1.toList && x.2.set.has (qof (cpv x).2.1 (cpv x).2.2.1 (cpv x).2.2.2))=true
 unfold cpv
 rw[jA,bytes_refl,Bool.true_and]
 exact mid_has (RI.set_ok _) (okB_void hb hx)
theorem Centers_law {h0 h:PH} [Le h0 h] {v:Value} {l:List Sd1} (hv:Boxv h0 v l):Spec mach 7 #[v] h (fun r _=>r=.bool true) NP:=by
 have hv0:=hv
 have k1:=fun {h} [Le h0 h]=>Center_spec (h:=h) hv
 have k2:=fun {h} [Le h0 h]=>RCenter_spec (h:=h) hv
 unfold CenR CenV at k1 k2
 obtain⟨va,vn,vc,rfl⟩:=hv.sa
 have bad:∀e:Int,e≠0→(∀{h} [Le h0 h],Spec mach 30 #[.slice va vn vc] h (fun r _=>r=.tuple #[.slice none 0 0,.int .i64 e]) NP)→(∀{h} [Le h0 h],Spec mach 31 #[.slice va vn vc] h (fun r _=>r=.tuple #[.slice none 0 0,.int .i64 e]) NP)→Spec mach 7 #[.slice va vn vc] h (fun r _=>r=.bool true) NP:=fun e he k1 k2=>by
  have e1:(e != e)=false:=by simp
  have e2:(e != 0)=true:=by simp[he]
  have e3:(e == 0)=false:=by simp[he]
  refine Spec.go [] Tryz.func7 rfl rfl (by kernel_rfl) fun C _=>?_
  try simp(maxSteps:=999999) (disch:=omega) only[go_sem,ξ,ζ]
  refine caN (by exact k1) ?_;rintro v1 h1 s1 rfl
  try simp(maxSteps:=999999) (disch:=omega) only[go_sem,ξ,ζ]
  refine caN (by exact k2) ?_;rintro v2 h2 s2 rfl
  try simp(maxSteps:=999999) (disch:=omega) only[go_sem,ξ,ζ,e1,e2,e3]
  refine lp [] (fun i:Nat=>⟨[(0,.v (.slice va vn vc)),(3,.v (.slice none 0 0)),(4,.v (.int .i64 e)),(43,.v (.int .i64 0)),(44,.v (.int .i64 0))],[]⟩) (fun i h'=>Le h0 h'∧i=0) (fun i=>0) 0 ?_ ⟨inferInstance,rfl⟩ (by kernel_rfl) ?_
  ·try simp(maxSteps:=999999) (disch:=omega) only[go_sem,ξ,ζ]
   all_goals rfl
  rintro i h3 ⟨le3,rfl⟩
  try simp(maxSteps:=999999) (disch:=omega) only[go_sem,ξ,ζ,e2]
  refine caN (by exact awake05_spec) ?_;rintro v8 h8 s8 rfl
  try simp(maxSteps:=999999) (disch:=omega) only[go_sem,ξ,ζ]
  all_goals rfl
 cases g:okB l with
 | false=>
  rw[g] at k1 k2
  exact bad 50 (by decide) k1 k2
 | true=>
  rw[g] at k1 k2
  cases g2:cenOk l with
  | false=>
   rw[g2] at k1 k2
   exact bad 1 (by decide) k1 k2
  | true=>
   rw[g2] at k1 k2
   have h6:=okB_six g
   refine Spec.go [] Tryz.func7 rfl rfl (by kernel_rfl) fun C _=>?_
   try simp(maxSteps:=999999) (disch:=omega) only[go_sem,ξ,ζ]
   refine caN (by exact k1) ?_;rintro v1 h1 s1 ⟨u,rfl,q1⟩
   try simp(maxSteps:=999999) (disch:=omega) only[go_sem,ξ,ζ]
   have p1:=q1.pt h6 g2
   have q1':=q1
   obtain⟨a,c,rfl,t1⟩:=q1'
   refine caN (by exact k2) ?_;rintro v2 h2 s2 ⟨u',rfl,q2⟩;have q2':=q2;obtain⟨a',c',rfl,t2⟩:=q2'
   try simp(maxSteps:=999999) (disch:=omega) only[go_sem,ξ,ζ]
   have en:(((l.map cq).length:Int) != ((l.map cq).length:Int))=false:=by simp
   try simp(maxSteps:=999999) (disch:=omega) only[go_sem,ξ,ζ,en]
   refine lp [] (fun i:Nat=>⟨[(0,.v (.slice va vn vc)),(3,.v (.slice a (l.map cq).length c)),(4,.v (.int .i64 0)),(5,.v (.slice a' (l.map cq).length c')),(43,.v (.int .i64 (l.map cq).length)),(44,.v (.int .i64 i))],[]⟩) (fun i h'=>Le h2 h'∧i≤(l.map cq).length) (fun i=>(l.map cq).length - i) 0 ?_ ⟨inferInstance,qBh _⟩ (by kernel_rfl) ?_
   ·try simp(maxSteps:=999999) (disch:=omega) only[go_sem,ξ,ζ]
    all_goals rfl
   rintro i h3 ⟨le3,hi⟩
   haveI:Le h1 h3:=⟨s2.sub.trans le3.sub⟩
   haveI:Le h0 h3:=⟨(show Sub h0 h1 from(inferInstance:Le h0 h1).sub).trans (s2.sub.trans le3.sub)⟩
   have hn6:(l.map cq).length≤6:=by rw[List.length_map];exact h6
   by_cases hlt:(i:Int) < ((l.map cq).length:Int)
   ·obtain⟨x,hx⟩:∃x,(l.map cq)[i]?=some x:=⟨_,List.getElem?_eq_getElem (by omega)⟩
    obtain⟨ad,_,rfl,⟨ds,rfl,b2,b3⟩,b4⟩:=t1 i x hx
    obtain⟨ad',_,rfl,⟨ds',rfl,b2',b3'⟩,b4'⟩:=t2 i x hx
    have bz:sz x.2≤2^30:=by
     rw[List.getElem?_map,Option.map_eq_some_iff] at hx
     obtain⟨y,hy,rfl⟩:=hx
     have:=of_decide_eq_true (qBd.1 g2 y (List.mem_of_getElem? hy))
     show sz (midQ y.2.set)≤_
     omega
    have e0:h1.at (ad.add (i*4))=some (.string x.1):=b4 0 _ rfl
    have e0':h2.at (ad'.add (i*4))=some (.string x.1):=b4' 0 _ rfl
    have eN:=bytes_refl x.1
    have eN':(x.1.toList != x.1.toList)=false:=by simp
    try simp(maxSteps:=999999) (disch:=omega) only[go_sem,ξ,ζ,hlt,decide_true]
    refine aE ((s2.sub.trans le3.sub).at e0) ?_
    try simp(maxSteps:=999999) (disch:=omega) only[go_sem,ξ,ζ]
    refine aE (le3.sub.at e0') ?_
    try simp(maxSteps:=999999) (disch:=omega) only[go_sem,ξ,ζ,eN']
    refine Exists.intro ds (And.intro b2 (And.intro (fun j v hj=>by rw[add_1];exact(s2.sub.trans le3.sub).at (b4 (j+1) v hj)) ?_))
    try simp(maxSteps:=999999) (disch:=omega) only[go_sem,ξ,ζ]
    refine caN (by exact mq (b3.to (h':=h3)) bz) ?_;rintro v3 h4 s4 rfl
    try simp(maxSteps:=999999) (disch:=omega) only[go_sem,ξ,ζ]
    refine Exists.intro ds (And.intro b2 (And.intro (fun j v hj=>by rw[add_1];exact(s2.sub.trans (le3.sub.trans s4.sub)).at (b4 (j+1) v hj)) ?_))
    try simp(maxSteps:=999999) (disch:=omega) only[go_sem,ξ,ζ]
    refine Exists.intro ds' (And.intro b2' (And.intro (fun j v hj=>by rw[add_1];exact(le3.sub.trans s4.sub).at (b4' (j+1) v hj)) ?_))
    try simp(maxSteps:=999999) (disch:=omega) only[go_sem,ξ,ζ]
    refine caN (by exact Ey (h0:=h4) (Cn.rw (b3.to (h:=h1) (h':=h4)) bz) (Cn.rw (b3'.to (h:=h2) (h':=h4)) bz)) ?_;rintro v5 h5 s5 rfl
    try simp(maxSteps:=999999) (disch:=omega) only[go_sem,ξ,ζ]
    dsimp only[lpE];refine⟨i+1,?_,⟨inferInstance,by omega⟩,by omega⟩
    ·try simp(maxSteps:=999999) (disch:=omega) only[go_sem,ξ,ζ]
     all_goals rfl
   ·obtain rfl:i=(l.map cq).length:=by omega
    have kH:=Holds_p (h0:=h3) (h:=h3) hv0.to p1.to
    have eH:holR l (l.map cpv)=(true,0):=by
     unfold holR
     rw[g,cen_ok g g2,Bool.and_true,cond_true,cen_in g]
    rw[eH] at kH
    try simp(maxSteps:=999999) (disch:=omega) only[go_sem,ξ,ζ,hlt,decide_false]
    refine caN (by exact kH) ?_;rintro v6 h6 s6 rfl
    try simp(maxSteps:=999999) (disch:=omega) only[go_sem,ξ,ζ]
    refine caN (by exact awake05_spec) ?_;rintro v8 h8 s8 rfl
    try simp(maxSteps:=999999) (disch:=omega) only[go_sem,ξ,ζ]
    all_goals rfl
end Go.Q
