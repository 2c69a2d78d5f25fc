/-
  Contracts of package interval, and what stands on it. Conditions: each theorem's own.
-/
import Derived.Test.YtbeoaipbdfbmoaaGreatDoorKc827e8PkO
import Derived.Test.YtbeoaipbdfbmoaaGreatDoorK0b866fPkN
import Derived.Test.YtbeoaipbdfbmoaaGreatDoorKaecb99PkG
import Derived.Test.YtbeoaipbdfbmoaaGreatDoorKa9e506PkI
import Derived.Test.YtbeoaipbdfbmoaaGreatDoorK90bd91PkA
import Derived.Test.YtbeoaipbdfbmoaaGreatDoorKdb5a93PkD
import Derived.Test.YtbeoaipbdfbmoaaGreatDoorK27c4c3PkK
set_option linter.unusedVariables false
set_option linter.unusedSimpArgs false
open Nat renaming reduceBEq→ξ,reduceAdd→ζ,le_trans→χ,le_refl→η,mul_le_mul→qAk,mul_ne_zero→qBe,lt_or_ge→qBj
open Bool renaming and_eq_true→φ
open List renaming mem_cons_self→qAt,mem_singleton→qBc,all_eq_true→qBd
open Rat renaming div_def→qAx
namespace Go.Q
open Go.Proofs
set_option maxRecDepth 100000
set_option maxHeartbeats 4000000
def Qd (f:FuncId) (args:Array Value) (h:PH):Except Int Rat→Prop
 |.ok q=>Spec mach f args h (fun v h'=>Cn h' v q) NP
 |.error e=>Spec mach f args h NR (fail e)
def Qo (h:PH) (r:Value):Except Int Rat→Prop
 |.ok q=>∃u,r=.tuple #[u,.int .i64 0]∧Cn h u q
 |.error e=>r=.tuple #[zRat,.int .i64 e]
theorem Qo.to {h h':PH} {r:Value} {o:Except Int Rat} (k:Qo h r o) [Le h h']:Qo h' r o:=by
 cases o with
 |error e=>exact k
 |ok x=>obtain⟨u,e,c⟩:=k;exact⟨u,e,c.to⟩
theorem Qo.ea {h:PH} {r:Value} {e:Int} (k:Qo h r (.error e)):r=.tuple #[.agg #[.bool false,.slice none 0 0,.slice none 0 0],.int .i64 e]:=k
theorem Qo.oa {h:PH} {r:Value} {q:Rat} (k:Qo h r (.ok q)):∃b na nl nc da dl dc,r=.tuple #[.agg #[.bool b,.slice na nl nc,.slice da dl dc],.int .i64 0]∧Cn h (.agg #[.bool b,.slice na nl nc,.slice da dl dc]) q:=by
 obtain⟨u,rfl,c⟩:=k
 obtain⟨_,_,_,_,_,_,_,rfl,c⟩:=c.sa
 exact⟨_,_,_,_,_,_,_,rfl,c⟩
theorem Qo.sa {h:PH} {r:Value} {o:Except Int Rat} (k:Qo h r o):∃b na nl nc da dl dc e,r=.tuple #[.agg #[.bool b,.slice na nl nc,.slice da dl dc],.int .i64 e]∧Qo h (.tuple #[.agg #[.bool b,.slice na nl nc,.slice da dl dc],.int .i64 e]) o:=by
 cases o with
 |error e=>cases(k:r=_);exact⟨_,_,_,_,_,_,_,_,rfl,rfl⟩
 | ok x=>
  obtain⟨_,_,_,_,_,_,_,rfl,c⟩:=k.oa
  exact⟨_,_,_,_,_,_,_,_,rfl,_,rfl,c⟩
theorem tryQ_any {h:PH} {f:FuncId} {cap:Array Value} {o:Except Int Rat} (g:Qd f cap h o):Spec mach 197 #[.func (.func f) #[] cap] h (fun r h'=>Qo h' r o) NP:=by
 cases o with
 |ok b=>exact tryRa_ok g (fun v h' _ r=>by
   obtain⟨_,_,_,_,_,_,_,rfl,c⟩:=r.sa
   exact⟨⟨_,_,_,rfl,rfl⟩,_,rfl,c⟩)
 |error e=>exact F5 g (fun _ _=>rfl)
def midQ:NS→Rat
 |.e=>0
 |.i none none=>((0:Int):Rat)
 |.i (some a) none=>a+((1:Int):Rat)
 |.i none (some b)=>b+((-1:Int):Rat)
 |.i (some a) (some b)=>(a+b) / 2
def midO (x:RI):Except Int Rat:=bif x.big then .error 1 else bif x.set.void then .error 2 else bif decide (sz (midQ x.set)≤2048) then .ok (midQ x.set) else .error 1
theorem mid_has {x:NS} (hx:x.ok) (hv:x.void=false):x.has (midQ x)=true:=by
 cases x with
 |e=>cases hv
 | i a b=>
  rw[NS.has_i]
  cases a with
  | none=>
   cases b with
   |none=>exact⟨fun _ k=>(by cases k),fun _ k=>(by cases k)⟩
   |some b=>exact⟨fun _ k=>(by cases k),fun _ k=>by cases k;show b+((-1:Int):Rat)≤b;grind⟩
  | some a=>
   cases b with
   |none=>exact⟨fun _ k=>by cases k;show a≤a+((1:Int):Rat);grind,fun _ k=>(by cases k)⟩
   | some b=>
    have h1:¬b < a:=by simpa[NS.ok,ordO] using hx
    have h2:(a+b) / 2=(a+b)*(1 / 2:Rat):=by grind
    refine⟨fun _ k=>?_,fun _ k=>?_⟩
    ·cases k;show a≤(a+b) / 2;grind
    ·cases k;show(a+b) / 2≤b;grind
theorem DT {x:Rat}:sgn (decide (x.num < 0)) x.num.natAbs (x.den*2^1)=x / 2:=by
 have h:=qZ x (2:Rat)⁻¹
 have e1:((2:Rat)⁻¹).num=1:=by rw[Rat.num_inv];rfl
 have e2:((2:Rat)⁻¹).den=2:=by rw[Rat.den_inv];rfl
 rw[e1,e2] at h
 have e3:(!(decide (x.num < 0) == decide ((1:Int) < 0)))=decide (x.num < 0):=by cases decide (x.num < 0)<;>rfl
 rw[e3] at h
 have e4:x.num.natAbs*(1:Int).natAbs=x.num.natAbs:=by simp
 rw[e4] at h
 rw[qAx,←h,Nat.pow_one]
theorem Middle1 {h0 h:PH} [Le h0 h] {v:Value} {x:RI} {b1:Nat} {cs:List Value} (hv:Iv h0 v x) (hc:v=.agg cs.toArray) (hl:cs.length=8) (hb1:h b1=some cs.toArray):
  Qd 198 #[.pointer (some ⟨b1,0,none⟩)] h (midO x):=by
 subst hc
 unfold midO
 cases g:x.big with
 | true=>
  dsimp only[cond_true]
  refine Spec.enter (args:=[_]) (n:=50) Tryz.func198 rfl (by kernel_rfl) rfl (by simp) [.cell 1 25] rfl (fun C _=>?_)
  repeat (first |(refine wo rfl (fun k hk=>?_);simp(disch:=omega) only[go_sem,ξ,ζ];apply hk;clear hk k) |refine wkt rfl ?_ |refine wk0 ?_ |refine rg rfl rfl (fun K hK=>?_) |refine rd [.o 0,.o 1,.o 2,.o 3,.o 4] rfl (by decide+kernel) rfl (fun K hK=>?_) |refine rd [.o 0,.o 1,.o 2,.o 3,.o 4,.o 5,.o 6,.o 7,.o 8] rfl (by decide+kernel) rfl (fun K hK=>?_) |((first |refine ae ?_ |refine ac ?_);simp(disch:=decide) only[qs,qb,if_true,if_false,reduceIte]) |refine ah rfl (fun K hK=>?_) |refine ct rfl ?_ |((try simp(disch:=omega) only[go_sem,ξ,ζ]);(first |apply hK |(clear hK;apply hK) |(clear hK;clear hK;apply hK));clear hK;(try clear K);(try dsimp only[ag,qs,qb])))
  refine wk (fun k hk=>?_);simp(disch:=omega) only[go_sem,ξ,ζ];refine⟨cs,hl,fG hb1,?_⟩;apply hk;clear hk k;(repeat (first |(refine wo rfl (fun k hk=>?_);simp(disch:=omega) only[go_sem,ξ,ζ];apply hk;clear hk k) |refine wkt rfl ?_));(try refine wk0 ?_)
  exact cF rfl rfl rfl rfl (by exact fF hv g) (fun _ _ h=>h)
 | false =>
  dsimp only[cond_false]
  have kR:=fun {h} [Le h0 h]=>dK (h:=h) hv g
  have hs:=RI.le30 g
  generalize x.set=s at*
  cases s with
  | e=>
   dsimp only[NS.void,cond_true]
   refine Spec.enter (args:=[_]) (n:=50) Tryz.func198 rfl (by kernel_rfl) rfl (by simp) [.cell 1 25] rfl (fun C _=>?_)
   repeat (first |(refine wo rfl (fun k hk=>?_);simp(disch:=omega) only[go_sem,ξ,ζ];apply hk;clear hk k) |refine wkt rfl ?_ |refine wk0 ?_ |refine rg rfl rfl (fun K hK=>?_) |refine rd [.o 0,.o 1,.o 2,.o 3,.o 4] rfl (by decide+kernel) rfl (fun K hK=>?_) |refine rd [.o 0,.o 1,.o 2,.o 3,.o 4,.o 5,.o 6,.o 7,.o 8] rfl (by decide+kernel) rfl (fun K hK=>?_) |((first |refine ae ?_ |refine ac ?_);simp(disch:=decide) only[qs,qb,if_true,if_false,reduceIte]) |refine ah rfl (fun K hK=>?_) |refine ct rfl ?_ |((try simp(disch:=omega) only[go_sem,ξ,ζ]);(first |apply hK |(clear hK;apply hK) |(clear hK;clear hK;apply hK));clear hK;(try clear K);(try dsimp only[ag,qs,qb])))
   refine wk (fun k hk=>?_);simp(disch:=omega) only[go_sem,ξ,ζ];refine⟨cs,hl,fG hb1,?_⟩;apply hk;clear hk k;(repeat (first |(refine wo rfl (fun k hk=>?_);simp(disch:=omega) only[go_sem,ξ,ζ];apply hk;clear hk k) |refine wkt rfl ?_));(try refine wk0 ?_)
   refine cN rfl rfl rfl rfl (by exact kR) ?_;rintro s1 h1 st1 hs1;obtain⟨_,_,_,_,_,_,_,_,_,_,_,_,_,_,_,_,rfl,hs1⟩:=hs1.ee
   repeat (first |(refine wo rfl (fun k hk=>?_);simp(disch:=omega) only[go_sem,ξ,ζ];apply hk;clear hk k) |refine wkt rfl ?_ |refine wk0 ?_ |refine rg rfl rfl (fun K hK=>?_) |refine rd [.o 0,.o 1,.o 2,.o 3,.o 4] rfl (by decide+kernel) rfl (fun K hK=>?_) |refine rd [.o 0,.o 1,.o 2,.o 3,.o 4,.o 5,.o 6,.o 7,.o 8] rfl (by decide+kernel) rfl (fun K hK=>?_) |((first |refine ae ?_ |refine ac ?_);simp(disch:=decide) only[qs,qb,if_true,if_false,reduceIte]) |refine ah rfl (fun K hK=>?_) |refine ct rfl ?_ |((try simp(disch:=omega) only[go_sem,ξ,ζ]);(first |apply hK |(clear hK;apply hK) |(clear hK;clear hK;apply hK));clear hK;(try clear K);(try dsimp only[ag,qs,qb])))
   exact cF rfl rfl rfl rfl (by exact jm (by decide)) (fun _ _ h=>h)
  | i a b =>
   rw[NS.le_i] at hs
   have kR:=fun {h} [Le h0 h]=>(kR (h:=h)).mono (R':=fun v h'=>Sn h' v (.i a b)) (E':=NP) (fun _ _ _ k=>k) (fun _ _ _ k=>k)
   dsimp only[NS.void,cond_false]
   by_cases hz:sz (midQ (.i a b))≤2048
   ·rw[decide_eq_true hz,cond_true]
    cases a with
    | none=>
     cases b with
     | none=>
      refine Spec.enter (args:=[_]) (n:=50) Tryz.func198 rfl (by kernel_rfl) rfl (by simp) [.cell 1 25] rfl (fun C _=>?_)
      repeat (first |(refine wo rfl (fun k hk=>?_);simp(disch:=omega) only[go_sem,ξ,ζ];apply hk;clear hk k) |refine wkt rfl ?_ |refine wk0 ?_ |refine rg rfl rfl (fun K hK=>?_) |refine rd [.o 0,.o 1,.o 2,.o 3,.o 4] rfl (by decide+kernel) rfl (fun K hK=>?_) |refine rd [.o 0,.o 1,.o 2,.o 3,.o 4,.o 5,.o 6,.o 7,.o 8] rfl (by decide+kernel) rfl (fun K hK=>?_) |((first |refine ae ?_ |refine ac ?_);simp(disch:=decide) only[qs,qb,if_true,if_false,reduceIte]) |refine ah rfl (fun K hK=>?_) |refine ct rfl ?_ |((try simp(disch:=omega) only[go_sem,ξ,ζ]);(first |apply hK |(clear hK;apply hK) |(clear hK;clear hK;apply hK));clear hK;(try clear K);(try dsimp only[ag,qs,qb])))
      refine wk (fun k hk=>?_);simp(disch:=omega) only[go_sem,ξ,ζ];refine⟨cs,hl,fG hb1,?_⟩;apply hk;clear hk k;(repeat (first |(refine wo rfl (fun k hk=>?_);simp(disch:=omega) only[go_sem,ξ,ζ];apply hk;clear hk k) |refine wkt rfl ?_));(try refine wk0 ?_)
      refine cN rfl rfl rfl rfl (by exact kR) ?_;rintro s1 h1 st1 hs1;obtain⟨_,_,_,_,_,_,_,_,_,_,_,_,_,_,rfl,e1,e2⟩:=hs1.ie;(repeat (first |(refine wo rfl (fun k hk=>?_);simp(disch:=omega) only[go_sem,ξ,ζ];apply hk;clear hk k) |refine wkt rfl ?_));(try refine wk0 ?_)
      (try (simp(disch:=omega) only[go_sem,ξ,ζ]));apply hK;clear hK;(try clear K);(try dsimp only[ag,qs])
      dsimp only[Option.isNone]
      repeat (first |(refine wo rfl (fun k hk=>?_);simp(disch:=omega) only[go_sem,ξ,ζ];apply hk;clear hk k) |refine wkt rfl ?_ |refine wk0 ?_ |refine rg rfl rfl (fun K hK=>?_) |refine rd [.o 0,.o 1,.o 2,.o 3,.o 4] rfl (by decide+kernel) rfl (fun K hK=>?_) |refine rd [.o 0,.o 1,.o 2,.o 3,.o 4,.o 5,.o 6,.o 7,.o 8] rfl (by decide+kernel) rfl (fun K hK=>?_) |((first |refine ae ?_ |refine ac ?_);simp(disch:=decide) only[qs,qb,if_true,if_false,reduceIte]) |refine ah rfl (fun K hK=>?_) |refine ct rfl ?_ |((try simp(disch:=omega) only[go_sem,ξ,ζ]);(first |apply hK |(clear hK;apply hK) |(clear hK;clear hK;apply hK));clear hK;(try clear K);(try dsimp only[ag,qs,qb])))
      refine cN rfl rfl rfl rfl (by exact cB (n:=0) (by decide) (by decide)) ?_;rintro v2 h2 _ f2;obtain⟨v2_0,v2_1,v2_2,v2_3,v2_4,v2_5,v2_6,rfl,f2⟩:=f2.sa
      repeat (first |(refine wo rfl (fun k hk=>?_);simp(disch:=omega) only[go_sem,ξ,ζ];apply hk;clear hk k) |refine wkt rfl ?_ |refine wk0 ?_ |refine rg rfl rfl (fun K hK=>?_) |refine rd [.o 0,.o 1,.o 2,.o 3,.o 4] rfl (by decide+kernel) rfl (fun K hK=>?_) |refine rd [.o 0,.o 1,.o 2,.o 3,.o 4,.o 5,.o 6,.o 7,.o 8] rfl (by decide+kernel) rfl (fun K hK=>?_) |((first |refine ae ?_ |refine ac ?_);simp(disch:=decide) only[qs,qb,if_true,if_false,reduceIte]) |refine ah rfl (fun K hK=>?_) |refine ct rfl ?_ |((try simp(disch:=omega) only[go_sem,ξ,ζ]);(first |apply hK |(clear hK;apply hK) |(clear hK;clear hK;apply hK));clear hK;(try clear K);(try dsimp only[ag,qs,qb])))
      refine cN rfl rfl rfl rfl (by exact cO f2 hz) ?_;rintro v8 h8 s8 ⟨u8,rfl,q8⟩;obtain⟨_,_,_,_,_,_,_,rfl,q8⟩:=q8.sa;(repeat (first |(refine wo rfl (fun k hk=>?_);simp(disch:=omega) only[go_sem,ξ,ζ];apply hk;clear hk k) |refine wkt rfl ?_));(try refine wk0 ?_)
      refine cN rfl rfl rfl rfl (by exact fm q8) ?_;rintro v9 h9 s9 rfl
      repeat (first |(refine wo rfl (fun k hk=>?_);simp(disch:=omega) only[go_sem,ξ,ζ];apply hk;clear hk k) |refine wkt rfl ?_ |refine wk0 ?_ |refine rg rfl rfl (fun K hK=>?_) |refine rd [.o 0,.o 1,.o 2,.o 3,.o 4] rfl (by decide+kernel) rfl (fun K hK=>?_) |refine rd [.o 0,.o 1,.o 2,.o 3,.o 4,.o 5,.o 6,.o 7,.o 8] rfl (by decide+kernel) rfl (fun K hK=>?_) |((first |refine ae ?_ |refine ac ?_);simp(disch:=decide) only[qs,qb,if_true,if_false,reduceIte]) |refine ah rfl (fun K hK=>?_) |refine ct rfl ?_ |((try simp(disch:=omega) only[go_sem,ξ,ζ]);(first |apply hK |(clear hK;apply hK) |(clear hK;clear hK;apply hK));clear hK;(try clear K);(try dsimp only[ag,qs,qb])))
      refine ai ?_;simp(disch:=omega) only[go_sem,ξ,ζ]
      exact q8.to
     | some b=>
      refine Spec.enter (args:=[_]) (n:=50) Tryz.func198 rfl (by kernel_rfl) rfl (by simp) [.cell 1 25] rfl (fun C _=>?_)
      repeat (first |(refine wo rfl (fun k hk=>?_);simp(disch:=omega) only[go_sem,ξ,ζ];apply hk;clear hk k) |refine wkt rfl ?_ |refine wk0 ?_ |refine rg rfl rfl (fun K hK=>?_) |refine rd [.o 0,.o 1,.o 2,.o 3,.o 4] rfl (by decide+kernel) rfl (fun K hK=>?_) |refine rd [.o 0,.o 1,.o 2,.o 3,.o 4,.o 5,.o 6,.o 7,.o 8] rfl (by decide+kernel) rfl (fun K hK=>?_) |((first |refine ae ?_ |refine ac ?_);simp(disch:=decide) only[qs,qb,if_true,if_false,reduceIte]) |refine ah rfl (fun K hK=>?_) |refine ct rfl ?_ |((try simp(disch:=omega) only[go_sem,ξ,ζ]);(first |apply hK |(clear hK;apply hK) |(clear hK;clear hK;apply hK));clear hK;(try clear K);(try dsimp only[ag,qs,qb])))
      refine wk (fun k hk=>?_);simp(disch:=omega) only[go_sem,ξ,ζ];refine⟨cs,hl,fG hb1,?_⟩;apply hk;clear hk k;(repeat (first |(refine wo rfl (fun k hk=>?_);simp(disch:=omega) only[go_sem,ξ,ζ];apply hk;clear hk k) |refine wkt rfl ?_));(try refine wk0 ?_)
      refine cN rfl rfl rfl rfl (by exact kR) ?_;rintro s1 h1 st1 hs1;obtain⟨_,_,_,_,_,_,_,_,_,_,_,_,_,_,rfl,e1,e2⟩:=hs1.ie;(repeat (first |(refine wo rfl (fun k hk=>?_);simp(disch:=omega) only[go_sem,ξ,ζ];apply hk;clear hk k) |refine wkt rfl ?_));(try refine wk0 ?_)
      (try (simp(disch:=omega) only[go_sem,ξ,ζ]));apply hK;clear hK;(try clear K);(try dsimp only[ag,qs])
      dsimp only[Option.isNone]
      repeat (first |(refine wo rfl (fun k hk=>?_);simp(disch:=omega) only[go_sem,ξ,ζ];apply hk;clear hk k) |refine wkt rfl ?_ |refine wk0 ?_ |refine rg rfl rfl (fun K hK=>?_) |refine rd [.o 0,.o 1,.o 2,.o 3,.o 4] rfl (by decide+kernel) rfl (fun K hK=>?_) |refine rd [.o 0,.o 1,.o 2,.o 3,.o 4,.o 5,.o 6,.o 7,.o 8] rfl (by decide+kernel) rfl (fun K hK=>?_) |((first |refine ae ?_ |refine ac ?_);simp(disch:=decide) only[qs,qb,if_true,if_false,reduceIte]) |refine ah rfl (fun K hK=>?_) |refine ct rfl ?_ |((try simp(disch:=omega) only[go_sem,ξ,ζ]);(first |apply hK |(clear hK;apply hK) |(clear hK;clear hK;apply hK));clear hK;(try clear K);(try dsimp only[ag,qs,qb])))
      refine cN rfl rfl rfl rfl (by exact cB (n:=-1) (by decide) (by decide)) ?_;rintro v2 h2 _ f2;obtain⟨v2_0,v2_1,v2_2,v2_3,v2_4,v2_5,v2_6,rfl,f2⟩:=f2.sa;(repeat (first |(refine wo rfl (fun k hk=>?_);simp(disch:=omega) only[go_sem,ξ,ζ];apply hk;clear hk k) |refine wkt rfl ?_));(try refine wk0 ?_)
      refine cN rfl rfl rfl rfl (by exact iV (e2.num.to (h':=h2)) f2 (up36 (hs.2 _ rfl)) (by decide)) ?_;rintro v3 h3 _ f3;obtain⟨v3_0,v3_1,v3_2,v3_3,v3_4,v3_5,v3_6,rfl,f3⟩:=f3.sa
      repeat (first |(refine wo rfl (fun k hk=>?_);simp(disch:=omega) only[go_sem,ξ,ζ];apply hk;clear hk k) |refine wkt rfl ?_ |refine wk0 ?_ |refine rg rfl rfl (fun K hK=>?_) |refine rd [.o 0,.o 1,.o 2,.o 3,.o 4] rfl (by decide+kernel) rfl (fun K hK=>?_) |refine rd [.o 0,.o 1,.o 2,.o 3,.o 4,.o 5,.o 6,.o 7,.o 8] rfl (by decide+kernel) rfl (fun K hK=>?_) |((first |refine ae ?_ |refine ac ?_);simp(disch:=decide) only[qs,qb,if_true,if_false,reduceIte]) |refine ah rfl (fun K hK=>?_) |refine ct rfl ?_ |((try simp(disch:=omega) only[go_sem,ξ,ζ]);(first |apply hK |(clear hK;apply hK) |(clear hK;clear hK;apply hK));clear hK;(try clear K);(try dsimp only[ag,qs,qb])))
      refine cN rfl rfl rfl rfl (by exact cO f3 hz) ?_;rintro v8 h8 s8 ⟨u8,rfl,q8⟩;obtain⟨_,_,_,_,_,_,_,rfl,q8⟩:=q8.sa;(repeat (first |(refine wo rfl (fun k hk=>?_);simp(disch:=omega) only[go_sem,ξ,ζ];apply hk;clear hk k) |refine wkt rfl ?_));(try refine wk0 ?_)
      refine cN rfl rfl rfl rfl (by exact fm q8) ?_;rintro v9 h9 s9 rfl
      repeat (first |(refine wo rfl (fun k hk=>?_);simp(disch:=omega) only[go_sem,ξ,ζ];apply hk;clear hk k) |refine wkt rfl ?_ |refine wk0 ?_ |refine rg rfl rfl (fun K hK=>?_) |refine rd [.o 0,.o 1,.o 2,.o 3,.o 4] rfl (by decide+kernel) rfl (fun K hK=>?_) |refine rd [.o 0,.o 1,.o 2,.o 3,.o 4,.o 5,.o 6,.o 7,.o 8] rfl (by decide+kernel) rfl (fun K hK=>?_) |((first |refine ae ?_ |refine ac ?_);simp(disch:=decide) only[qs,qb,if_true,if_false,reduceIte]) |refine ah rfl (fun K hK=>?_) |refine ct rfl ?_ |((try simp(disch:=omega) only[go_sem,ξ,ζ]);(first |apply hK |(clear hK;apply hK) |(clear hK;clear hK;apply hK));clear hK;(try clear K);(try dsimp only[ag,qs,qb])))
      refine ai ?_;simp(disch:=omega) only[go_sem,ξ,ζ]
      exact q8.to
    | some a=>
     cases b with
     | none=>
      refine Spec.enter (args:=[_]) (n:=50) Tryz.func198 rfl (by kernel_rfl) rfl (by simp) [.cell 1 25] rfl (fun C _=>?_)
      repeat (first |(refine wo rfl (fun k hk=>?_);simp(disch:=omega) only[go_sem,ξ,ζ];apply hk;clear hk k) |refine wkt rfl ?_ |refine wk0 ?_ |refine rg rfl rfl (fun K hK=>?_) |refine rd [.o 0,.o 1,.o 2,.o 3,.o 4] rfl (by decide+kernel) rfl (fun K hK=>?_) |refine rd [.o 0,.o 1,.o 2,.o 3,.o 4,.o 5,.o 6,.o 7,.o 8] rfl (by decide+kernel) rfl (fun K hK=>?_) |((first |refine ae ?_ |refine ac ?_);simp(disch:=decide) only[qs,qb,if_true,if_false,reduceIte]) |refine ah rfl (fun K hK=>?_) |refine ct rfl ?_ |((try simp(disch:=omega) only[go_sem,ξ,ζ]);(first |apply hK |(clear hK;apply hK) |(clear hK;clear hK;apply hK));clear hK;(try clear K);(try dsimp only[ag,qs,qb])))
      refine wk (fun k hk=>?_);simp(disch:=omega) only[go_sem,ξ,ζ];refine⟨cs,hl,fG hb1,?_⟩;apply hk;clear hk k;(repeat (first |(refine wo rfl (fun k hk=>?_);simp(disch:=omega) only[go_sem,ξ,ζ];apply hk;clear hk k) |refine wkt rfl ?_));(try refine wk0 ?_)
      refine cN rfl rfl rfl rfl (by exact kR) ?_;rintro s1 h1 st1 hs1;obtain⟨_,_,_,_,_,_,_,_,_,_,_,_,_,_,rfl,e1,e2⟩:=hs1.ie;(repeat (first |(refine wo rfl (fun k hk=>?_);simp(disch:=omega) only[go_sem,ξ,ζ];apply hk;clear hk k) |refine wkt rfl ?_));(try refine wk0 ?_)
      (try (simp(disch:=omega) only[go_sem,ξ,ζ]));apply hK;clear hK;(try clear K);(try dsimp only[ag,qs])
      dsimp only[Option.isNone]
      repeat (first |(refine wo rfl (fun k hk=>?_);simp(disch:=omega) only[go_sem,ξ,ζ];apply hk;clear hk k) |refine wkt rfl ?_ |refine wk0 ?_ |refine rg rfl rfl (fun K hK=>?_) |refine rd [.o 0,.o 1,.o 2,.o 3,.o 4] rfl (by decide+kernel) rfl (fun K hK=>?_) |refine rd [.o 0,.o 1,.o 2,.o 3,.o 4,.o 5,.o 6,.o 7,.o 8] rfl (by decide+kernel) rfl (fun K hK=>?_) |((first |refine ae ?_ |refine ac ?_);simp(disch:=decide) only[qs,qb,if_true,if_false,reduceIte]) |refine ah rfl (fun K hK=>?_) |refine ct rfl ?_ |((try simp(disch:=omega) only[go_sem,ξ,ζ]);(first |apply hK |(clear hK;apply hK) |(clear hK;clear hK;apply hK));clear hK;(try clear K);(try dsimp only[ag,qs,qb])))
      refine cN rfl rfl rfl rfl (by exact cB (n:=1) (by decide) (by decide)) ?_;rintro v2 h2 _ f2;obtain⟨v2_0,v2_1,v2_2,v2_3,v2_4,v2_5,v2_6,rfl,f2⟩:=f2.sa;(repeat (first |(refine wo rfl (fun k hk=>?_);simp(disch:=omega) only[go_sem,ξ,ζ];apply hk;clear hk k) |refine wkt rfl ?_));(try refine wk0 ?_)
      refine cN rfl rfl rfl rfl (by exact iV (e1.num.to (h':=h2)) f2 (up36 (hs.1 _ rfl)) (by decide)) ?_;rintro v3 h3 _ f3;obtain⟨v3_0,v3_1,v3_2,v3_3,v3_4,v3_5,v3_6,rfl,f3⟩:=f3.sa
      repeat (first |(refine wo rfl (fun k hk=>?_);simp(disch:=omega) only[go_sem,ξ,ζ];apply hk;clear hk k) |refine wkt rfl ?_ |refine wk0 ?_ |refine rg rfl rfl (fun K hK=>?_) |refine rd [.o 0,.o 1,.o 2,.o 3,.o 4] rfl (by decide+kernel) rfl (fun K hK=>?_) |refine rd [.o 0,.o 1,.o 2,.o 3,.o 4,.o 5,.o 6,.o 7,.o 8] rfl (by decide+kernel) rfl (fun K hK=>?_) |((first |refine ae ?_ |refine ac ?_);simp(disch:=decide) only[qs,qb,if_true,if_false,reduceIte]) |refine ah rfl (fun K hK=>?_) |refine ct rfl ?_ |((try simp(disch:=omega) only[go_sem,ξ,ζ]);(first |apply hK |(clear hK;apply hK) |(clear hK;clear hK;apply hK));clear hK;(try clear K);(try dsimp only[ag,qs,qb])))
      refine cN rfl rfl rfl rfl (by exact cO f3 hz) ?_;rintro v8 h8 s8 ⟨u8,rfl,q8⟩;obtain⟨_,_,_,_,_,_,_,rfl,q8⟩:=q8.sa;(repeat (first |(refine wo rfl (fun k hk=>?_);simp(disch:=omega) only[go_sem,ξ,ζ];apply hk;clear hk k) |refine wkt rfl ?_));(try refine wk0 ?_)
      refine cN rfl rfl rfl rfl (by exact fm q8) ?_;rintro v9 h9 s9 rfl
      repeat (first |(refine wo rfl (fun k hk=>?_);simp(disch:=omega) only[go_sem,ξ,ζ];apply hk;clear hk k) |refine wkt rfl ?_ |refine wk0 ?_ |refine rg rfl rfl (fun K hK=>?_) |refine rd [.o 0,.o 1,.o 2,.o 3,.o 4] rfl (by decide+kernel) rfl (fun K hK=>?_) |refine rd [.o 0,.o 1,.o 2,.o 3,.o 4,.o 5,.o 6,.o 7,.o 8] rfl (by decide+kernel) rfl (fun K hK=>?_) |((first |refine ae ?_ |refine ac ?_);simp(disch:=decide) only[qs,qb,if_true,if_false,reduceIte]) |refine ah rfl (fun K hK=>?_) |refine ct rfl ?_ |((try simp(disch:=omega) only[go_sem,ξ,ζ]);(first |apply hK |(clear hK;apply hK) |(clear hK;clear hK;apply hK));clear hK;(try clear K);(try dsimp only[ag,qs,qb])))
      refine ai ?_;simp(disch:=omega) only[go_sem,ξ,ζ]
      exact q8.to
     | some b=>
      refine Spec.enter (args:=[_]) (n:=50) Tryz.func198 rfl (by kernel_rfl) rfl (by simp) [.cell 1 25] rfl (fun C _=>?_)
      repeat (first |(refine wo rfl (fun k hk=>?_);simp(disch:=omega) only[go_sem,ξ,ζ];apply hk;clear hk k) |refine wkt rfl ?_ |refine wk0 ?_ |refine rg rfl rfl (fun K hK=>?_) |refine rd [.o 0,.o 1,.o 2,.o 3,.o 4] rfl (by decide+kernel) rfl (fun K hK=>?_) |refine rd [.o 0,.o 1,.o 2,.o 3,.o 4,.o 5,.o 6,.o 7,.o 8] rfl (by decide+kernel) rfl (fun K hK=>?_) |((first |refine ae ?_ |refine ac ?_);simp(disch:=decide) only[qs,qb,if_true,if_false,reduceIte]) |refine ah rfl (fun K hK=>?_) |refine ct rfl ?_ |((try simp(disch:=omega) only[go_sem,ξ,ζ]);(first |apply hK |(clear hK;apply hK) |(clear hK;clear hK;apply hK));clear hK;(try clear K);(try dsimp only[ag,qs,qb])))
      refine wk (fun k hk=>?_);simp(disch:=omega) only[go_sem,ξ,ζ];refine⟨cs,hl,fG hb1,?_⟩;apply hk;clear hk k;(repeat (first |(refine wo rfl (fun k hk=>?_);simp(disch:=omega) only[go_sem,ξ,ζ];apply hk;clear hk k) |refine wkt rfl ?_));(try refine wk0 ?_)
      refine cN rfl rfl rfl rfl (by exact kR) ?_;rintro s1 h1 st1 hs1;obtain⟨_,_,_,_,_,_,_,_,_,_,_,_,_,_,rfl,e1,e2⟩:=hs1.ie;(repeat (first |(refine wo rfl (fun k hk=>?_);simp(disch:=omega) only[go_sem,ξ,ζ];apply hk;clear hk k) |refine wkt rfl ?_));(try refine wk0 ?_)
      (try (simp(disch:=omega) only[go_sem,ξ,ζ]));apply hK;clear hK;(try clear K);(try dsimp only[ag,qs])
      dsimp only[Option.isNone]
      have b1:=dA a b
      have z1:=hs.1 _ rfl
      have z2:=hs.2 _ rfl
      have b2:=bG (a+b)
      have b3:=bB (a+b)
      repeat (first |(refine wo rfl (fun k hk=>?_);simp(disch:=omega) only[go_sem,ξ,ζ];apply hk;clear hk k) |refine wkt rfl ?_ |refine wk0 ?_ |refine rg rfl rfl (fun K hK=>?_) |refine rd [.o 0,.o 1,.o 2,.o 3,.o 4] rfl (by decide+kernel) rfl (fun K hK=>?_) |refine rd [.o 0,.o 1,.o 2,.o 3,.o 4,.o 5,.o 6,.o 7,.o 8] rfl (by decide+kernel) rfl (fun K hK=>?_) |((first |refine ae ?_ |refine ac ?_);simp(disch:=decide) only[qs,qb,if_true,if_false,reduceIte]) |refine ah rfl (fun K hK=>?_) |refine ct rfl ?_ |((try simp(disch:=omega) only[go_sem,ξ,ζ]);(first |apply hK |(clear hK;apply hK) |(clear hK;clear hK;apply hK));clear hK;(try clear K);(try dsimp only[ag,qs,qb])))
      refine cN rfl rfl rfl rfl (by exact iV e1.num e2.num (up36 (hs.1 _ rfl)) (up36 (hs.2 _ rfl))) ?_;rintro v2 h2 s2 f2;obtain⟨na,nl,nc,da,dl,dc,rfl,hn,hd⟩:=f2.sl
      repeat (first |(refine wo rfl (fun k hk=>?_);simp(disch:=omega) only[go_sem,ξ,ζ];apply hk;clear hk k) |refine wkt rfl ?_ |refine wk0 ?_ |refine rg rfl rfl (fun K hK=>?_) |refine rd [.o 0,.o 1,.o 2,.o 3,.o 4] rfl (by decide+kernel) rfl (fun K hK=>?_) |refine rd [.o 0,.o 1,.o 2,.o 3,.o 4,.o 5,.o 6,.o 7,.o 8] rfl (by decide+kernel) rfl (fun K hK=>?_) |((first |refine ae ?_ |refine ac ?_);simp(disch:=decide) only[qs,qb,if_true,if_false,reduceIte]) |refine ah rfl (fun K hK=>?_) |refine ct rfl ?_ |((try simp(disch:=omega) only[go_sem,ξ,ζ]);(first |apply hK |(clear hK;apply hK) |(clear hK;clear hK;apply hK));clear hK;(try clear K);(try dsimp only[ag,qs,qb])))
      refine cN rfl rfl rfl rfl (by exact aL (n:=1) hd (by omega)) ?_;rintro v3 h3 _ f3;obtain⟨v3,v3_l,v3_c,rfl,f3⟩:=f3.sl;(repeat (first |(refine wo rfl (fun k hk=>?_);simp(disch:=omega) only[go_sem,ξ,ζ];apply hk;clear hk k) |refine wkt rfl ?_));(try refine wk0 ?_)
      refine cN rfl rfl rfl rfl (by exact bW (hn.to (h':=h3)) f3 (qBe (a+b).den_nz (by decide)) (by omega) (by have:=cu (a+b).den 1;omega)) ?_;rintro v4 h4 _ f4;obtain⟨v4_0,v4_1,v4_2,v4_3,v4_4,v4_5,v4_6,rfl,f4⟩:=f4.sa;(repeat (first |(refine wo rfl (fun k hk=>?_);simp(disch:=omega) only[go_sem,ξ,ζ];apply hk;clear hk k) |refine wkt rfl ?_));(try refine wk0 ?_)
      (try (simp(disch:=omega) only[go_sem,ξ,ζ]));apply hK;clear hK;(try clear K);(try dsimp only[ag,qs])
      rw[DT] at f4
      repeat (first |(refine wo rfl (fun k hk=>?_);simp(disch:=omega) only[go_sem,ξ,ζ];apply hk;clear hk k) |refine wkt rfl ?_ |refine wk0 ?_ |refine rg rfl rfl (fun K hK=>?_) |refine rd [.o 0,.o 1,.o 2,.o 3,.o 4] rfl (by decide+kernel) rfl (fun K hK=>?_) |refine rd [.o 0,.o 1,.o 2,.o 3,.o 4,.o 5,.o 6,.o 7,.o 8] rfl (by decide+kernel) rfl (fun K hK=>?_) |((first |refine ae ?_ |refine ac ?_);simp(disch:=decide) only[qs,qb,if_true,if_false,reduceIte]) |refine ah rfl (fun K hK=>?_) |refine ct rfl ?_ |((try simp(disch:=omega) only[go_sem,ξ,ζ]);(first |apply hK |(clear hK;apply hK) |(clear hK;clear hK;apply hK));clear hK;(try clear K);(try dsimp only[ag,qs,qb])))
      refine cN rfl rfl rfl rfl (by exact cO f4 hz) ?_;rintro v8 h8 s8 ⟨u8,rfl,q8⟩;obtain⟨_,_,_,_,_,_,_,rfl,q8⟩:=q8.sa;(repeat (first |(refine wo rfl (fun k hk=>?_);simp(disch:=omega) only[go_sem,ξ,ζ];apply hk;clear hk k) |refine wkt rfl ?_));(try refine wk0 ?_)
      refine cN rfl rfl rfl rfl (by exact fm q8) ?_;rintro v9 h9 s9 rfl
      repeat (first |(refine wo rfl (fun k hk=>?_);simp(disch:=omega) only[go_sem,ξ,ζ];apply hk;clear hk k) |refine wkt rfl ?_ |refine wk0 ?_ |refine rg rfl rfl (fun K hK=>?_) |refine rd [.o 0,.o 1,.o 2,.o 3,.o 4] rfl (by decide+kernel) rfl (fun K hK=>?_) |refine rd [.o 0,.o 1,.o 2,.o 3,.o 4,.o 5,.o 6,.o 7,.o 8] rfl (by decide+kernel) rfl (fun K hK=>?_) |((first |refine ae ?_ |refine ac ?_);simp(disch:=decide) only[qs,qb,if_true,if_false,reduceIte]) |refine ah rfl (fun K hK=>?_) |refine ct rfl ?_ |((try simp(disch:=omega) only[go_sem,ξ,ζ]);(first |apply hK |(clear hK;apply hK) |(clear hK;clear hK;apply hK));clear hK;(try clear K);(try dsimp only[ag,qs,qb])))
      refine ai ?_;simp(disch:=omega) only[go_sem,ξ,ζ]
      exact q8.to
   ·rw[decide_eq_false hz,cond_false]
    cases a with
    | none=>
     cases b with
     | none=>
      refine Spec.enter (args:=[_]) (n:=50) Tryz.func198 rfl (by kernel_rfl) rfl (by simp) [.cell 1 25] rfl (fun C _=>?_)
      repeat (first |(refine wo rfl (fun k hk=>?_);simp(disch:=omega) only[go_sem,ξ,ζ];apply hk;clear hk k) |refine wkt rfl ?_ |refine wk0 ?_ |refine rg rfl rfl (fun K hK=>?_) |refine rd [.o 0,.o 1,.o 2,.o 3,.o 4] rfl (by decide+kernel) rfl (fun K hK=>?_) |refine rd [.o 0,.o 1,.o 2,.o 3,.o 4,.o 5,.o 6,.o 7,.o 8] rfl (by decide+kernel) rfl (fun K hK=>?_) |((first |refine ae ?_ |refine ac ?_);simp(disch:=decide) only[qs,qb,if_true,if_false,reduceIte]) |refine ah rfl (fun K hK=>?_) |refine ct rfl ?_ |((try simp(disch:=omega) only[go_sem,ξ,ζ]);(first |apply hK |(clear hK;apply hK) |(clear hK;clear hK;apply hK));clear hK;(try clear K);(try dsimp only[ag,qs,qb])))
      refine wk (fun k hk=>?_);simp(disch:=omega) only[go_sem,ξ,ζ];refine⟨cs,hl,fG hb1,?_⟩;apply hk;clear hk k;(repeat (first |(refine wo rfl (fun k hk=>?_);simp(disch:=omega) only[go_sem,ξ,ζ];apply hk;clear hk k) |refine wkt rfl ?_));(try refine wk0 ?_)
      refine cN rfl rfl rfl rfl (by exact kR) ?_;rintro s1 h1 st1 hs1;obtain⟨_,_,_,_,_,_,_,_,_,_,_,_,_,_,rfl,e1,e2⟩:=hs1.ie;(repeat (first |(refine wo rfl (fun k hk=>?_);simp(disch:=omega) only[go_sem,ξ,ζ];apply hk;clear hk k) |refine wkt rfl ?_));(try refine wk0 ?_)
      (try (simp(disch:=omega) only[go_sem,ξ,ζ]));apply hK;clear hK;(try clear K);(try dsimp only[ag,qs])
      dsimp only[Option.isNone]
      repeat (first |(refine wo rfl (fun k hk=>?_);simp(disch:=omega) only[go_sem,ξ,ζ];apply hk;clear hk k) |refine wkt rfl ?_ |refine wk0 ?_ |refine rg rfl rfl (fun K hK=>?_) |refine rd [.o 0,.o 1,.o 2,.o 3,.o 4] rfl (by decide+kernel) rfl (fun K hK=>?_) |refine rd [.o 0,.o 1,.o 2,.o 3,.o 4,.o 5,.o 6,.o 7,.o 8] rfl (by decide+kernel) rfl (fun K hK=>?_) |((first |refine ae ?_ |refine ac ?_);simp(disch:=decide) only[qs,qb,if_true,if_false,reduceIte]) |refine ah rfl (fun K hK=>?_) |refine ct rfl ?_ |((try simp(disch:=omega) only[go_sem,ξ,ζ]);(first |apply hK |(clear hK;apply hK) |(clear hK;clear hK;apply hK));clear hK;(try clear K);(try dsimp only[ag,qs,qb])))
      refine cN rfl rfl rfl rfl (by exact cB (n:=0) (by decide) (by decide)) ?_;rintro v2 h2 _ f2;obtain⟨v2_0,v2_1,v2_2,v2_3,v2_4,v2_5,v2_6,rfl,f2⟩:=f2.sa
      repeat (first |(refine wo rfl (fun k hk=>?_);simp(disch:=omega) only[go_sem,ξ,ζ];apply hk;clear hk k) |refine wkt rfl ?_ |refine wk0 ?_ |refine rg rfl rfl (fun K hK=>?_) |refine rd [.o 0,.o 1,.o 2,.o 3,.o 4] rfl (by decide+kernel) rfl (fun K hK=>?_) |refine rd [.o 0,.o 1,.o 2,.o 3,.o 4,.o 5,.o 6,.o 7,.o 8] rfl (by decide+kernel) rfl (fun K hK=>?_) |((first |refine ae ?_ |refine ac ?_);simp(disch:=decide) only[qs,qb,if_true,if_false,reduceIte]) |refine ah rfl (fun K hK=>?_) |refine ct rfl ?_ |((try simp(disch:=omega) only[go_sem,ξ,ζ]);(first |apply hK |(clear hK;apply hK) |(clear hK;clear hK;apply hK));clear hK;(try clear K);(try dsimp only[ag,qs,qb])))
      refine cN rfl rfl rfl rfl (by exact ms f2 hz) ?_;rintro v8 h8 s8 rfl;(repeat (first |(refine wo rfl (fun k hk=>?_);simp(disch:=omega) only[go_sem,ξ,ζ];apply hk;clear hk k) |refine wkt rfl ?_));(try refine wk0 ?_)
      exact cF rfl rfl rfl rfl (by exact jj (by decide)) (fun _ _ h=>h)
     | some b=>
      refine Spec.enter (args:=[_]) (n:=50) Tryz.func198 rfl (by kernel_rfl) rfl (by simp) [.cell 1 25] rfl (fun C _=>?_)
      repeat (first |(refine wo rfl (fun k hk=>?_);simp(disch:=omega) only[go_sem,ξ,ζ];apply hk;clear hk k) |refine wkt rfl ?_ |refine wk0 ?_ |refine rg rfl rfl (fun K hK=>?_) |refine rd [.o 0,.o 1,.o 2,.o 3,.o 4] rfl (by decide+kernel) rfl (fun K hK=>?_) |refine rd [.o 0,.o 1,.o 2,.o 3,.o 4,.o 5,.o 6,.o 7,.o 8] rfl (by decide+kernel) rfl (fun K hK=>?_) |((first |refine ae ?_ |refine ac ?_);simp(disch:=decide) only[qs,qb,if_true,if_false,reduceIte]) |refine ah rfl (fun K hK=>?_) |refine ct rfl ?_ |((try simp(disch:=omega) only[go_sem,ξ,ζ]);(first |apply hK |(clear hK;apply hK) |(clear hK;clear hK;apply hK));clear hK;(try clear K);(try dsimp only[ag,qs,qb])))
      refine wk (fun k hk=>?_);simp(disch:=omega) only[go_sem,ξ,ζ];refine⟨cs,hl,fG hb1,?_⟩;apply hk;clear hk k;(repeat (first |(refine wo rfl (fun k hk=>?_);simp(disch:=omega) only[go_sem,ξ,ζ];apply hk;clear hk k) |refine wkt rfl ?_));(try refine wk0 ?_)
      refine cN rfl rfl rfl rfl (by exact kR) ?_;rintro s1 h1 st1 hs1;obtain⟨_,_,_,_,_,_,_,_,_,_,_,_,_,_,rfl,e1,e2⟩:=hs1.ie;(repeat (first |(refine wo rfl (fun k hk=>?_);simp(disch:=omega) only[go_sem,ξ,ζ];apply hk;clear hk k) |refine wkt rfl ?_));(try refine wk0 ?_)
      (try (simp(disch:=omega) only[go_sem,ξ,ζ]));apply hK;clear hK;(try clear K);(try dsimp only[ag,qs])
      dsimp only[Option.isNone]
      repeat (first |(refine wo rfl (fun k hk=>?_);simp(disch:=omega) only[go_sem,ξ,ζ];apply hk;clear hk k) |refine wkt rfl ?_ |refine wk0 ?_ |refine rg rfl rfl (fun K hK=>?_) |refine rd [.o 0,.o 1,.o 2,.o 3,.o 4] rfl (by decide+kernel) rfl (fun K hK=>?_) |refine rd [.o 0,.o 1,.o 2,.o 3,.o 4,.o 5,.o 6,.o 7,.o 8] rfl (by decide+kernel) rfl (fun K hK=>?_) |((first |refine ae ?_ |refine ac ?_);simp(disch:=decide) only[qs,qb,if_true,if_false,reduceIte]) |refine ah rfl (fun K hK=>?_) |refine ct rfl ?_ |((try simp(disch:=omega) only[go_sem,ξ,ζ]);(first |apply hK |(clear hK;apply hK) |(clear hK;clear hK;apply hK));clear hK;(try clear K);(try dsimp only[ag,qs,qb])))
      refine cN rfl rfl rfl rfl (by exact cB (n:=-1) (by decide) (by decide)) ?_;rintro v2 h2 _ f2;obtain⟨v2_0,v2_1,v2_2,v2_3,v2_4,v2_5,v2_6,rfl,f2⟩:=f2.sa;(repeat (first |(refine wo rfl (fun k hk=>?_);simp(disch:=omega) only[go_sem,ξ,ζ];apply hk;clear hk k) |refine wkt rfl ?_));(try refine wk0 ?_)
      refine cN rfl rfl rfl rfl (by exact iV (e2.num.to (h':=h2)) f2 (up36 (hs.2 _ rfl)) (by decide)) ?_;rintro v3 h3 _ f3;obtain⟨v3_0,v3_1,v3_2,v3_3,v3_4,v3_5,v3_6,rfl,f3⟩:=f3.sa
      repeat (first |(refine wo rfl (fun k hk=>?_);simp(disch:=omega) only[go_sem,ξ,ζ];apply hk;clear hk k) |refine wkt rfl ?_ |refine wk0 ?_ |refine rg rfl rfl (fun K hK=>?_) |refine rd [.o 0,.o 1,.o 2,.o 3,.o 4] rfl (by decide+kernel) rfl (fun K hK=>?_) |refine rd [.o 0,.o 1,.o 2,.o 3,.o 4,.o 5,.o 6,.o 7,.o 8] rfl (by decide+kernel) rfl (fun K hK=>?_) |((first |refine ae ?_ |refine ac ?_);simp(disch:=decide) only[qs,qb,if_true,if_false,reduceIte]) |refine ah rfl (fun K hK=>?_) |refine ct rfl ?_ |((try simp(disch:=omega) only[go_sem,ξ,ζ]);(first |apply hK |(clear hK;apply hK) |(clear hK;clear hK;apply hK));clear hK;(try clear K);(try dsimp only[ag,qs,qb])))
      refine cN rfl rfl rfl rfl (by exact ms f3 hz) ?_;rintro v8 h8 s8 rfl;(repeat (first |(refine wo rfl (fun k hk=>?_);simp(disch:=omega) only[go_sem,ξ,ζ];apply hk;clear hk k) |refine wkt rfl ?_));(try refine wk0 ?_)
      exact cF rfl rfl rfl rfl (by exact jj (by decide)) (fun _ _ h=>h)
    | some a=>
     cases b with
     | none=>
      refine Spec.enter (args:=[_]) (n:=50) Tryz.func198 rfl (by kernel_rfl) rfl (by simp) [.cell 1 25] rfl (fun C _=>?_)
      repeat (first |(refine wo rfl (fun k hk=>?_);simp(disch:=omega) only[go_sem,ξ,ζ];apply hk;clear hk k) |refine wkt rfl ?_ |refine wk0 ?_ |refine rg rfl rfl (fun K hK=>?_) |refine rd [.o 0,.o 1,.o 2,.o 3,.o 4] rfl (by decide+kernel) rfl (fun K hK=>?_) |refine rd [.o 0,.o 1,.o 2,.o 3,.o 4,.o 5,.o 6,.o 7,.o 8] rfl (by decide+kernel) rfl (fun K hK=>?_) |((first |refine ae ?_ |refine ac ?_);simp(disch:=decide) only[qs,qb,if_true,if_false,reduceIte]) |refine ah rfl (fun K hK=>?_) |refine ct rfl ?_ |((try simp(disch:=omega) only[go_sem,ξ,ζ]);(first |apply hK |(clear hK;apply hK) |(clear hK;clear hK;apply hK));clear hK;(try clear K);(try dsimp only[ag,qs,qb])))
      refine wk (fun k hk=>?_);simp(disch:=omega) only[go_sem,ξ,ζ];refine⟨cs,hl,fG hb1,?_⟩;apply hk;clear hk k;(repeat (first |(refine wo rfl (fun k hk=>?_);simp(disch:=omega) only[go_sem,ξ,ζ];apply hk;clear hk k) |refine wkt rfl ?_));(try refine wk0 ?_)
      refine cN rfl rfl rfl rfl (by exact kR) ?_;rintro s1 h1 st1 hs1;obtain⟨_,_,_,_,_,_,_,_,_,_,_,_,_,_,rfl,e1,e2⟩:=hs1.ie;(repeat (first |(refine wo rfl (fun k hk=>?_);simp(disch:=omega) only[go_sem,ξ,ζ];apply hk;clear hk k) |refine wkt rfl ?_));(try refine wk0 ?_)
      (try (simp(disch:=omega) only[go_sem,ξ,ζ]));apply hK;clear hK;(try clear K);(try dsimp only[ag,qs])
      dsimp only[Option.isNone]
      repeat (first |(refine wo rfl (fun k hk=>?_);simp(disch:=omega) only[go_sem,ξ,ζ];apply hk;clear hk k) |refine wkt rfl ?_ |refine wk0 ?_ |refine rg rfl rfl (fun K hK=>?_) |refine rd [.o 0,.o 1,.o 2,.o 3,.o 4] rfl (by decide+kernel) rfl (fun K hK=>?_) |refine rd [.o 0,.o 1,.o 2,.o 3,.o 4,.o 5,.o 6,.o 7,.o 8] rfl (by decide+kernel) rfl (fun K hK=>?_) |((first |refine ae ?_ |refine ac ?_);simp(disch:=decide) only[qs,qb,if_true,if_false,reduceIte]) |refine ah rfl (fun K hK=>?_) |refine ct rfl ?_ |((try simp(disch:=omega) only[go_sem,ξ,ζ]);(first |apply hK |(clear hK;apply hK) |(clear hK;clear hK;apply hK));clear hK;(try clear K);(try dsimp only[ag,qs,qb])))
      refine cN rfl rfl rfl rfl (by exact cB (n:=1) (by decide) (by decide)) ?_;rintro v2 h2 _ f2;obtain⟨v2_0,v2_1,v2_2,v2_3,v2_4,v2_5,v2_6,rfl,f2⟩:=f2.sa;(repeat (first |(refine wo rfl (fun k hk=>?_);simp(disch:=omega) only[go_sem,ξ,ζ];apply hk;clear hk k) |refine wkt rfl ?_));(try refine wk0 ?_)
      refine cN rfl rfl rfl rfl (by exact iV (e1.num.to (h':=h2)) f2 (up36 (hs.1 _ rfl)) (by decide)) ?_;rintro v3 h3 _ f3;obtain⟨v3_0,v3_1,v3_2,v3_3,v3_4,v3_5,v3_6,rfl,f3⟩:=f3.sa
      repeat (first |(refine wo rfl (fun k hk=>?_);simp(disch:=omega) only[go_sem,ξ,ζ];apply hk;clear hk k) |refine wkt rfl ?_ |refine wk0 ?_ |refine rg rfl rfl (fun K hK=>?_) |refine rd [.o 0,.o 1,.o 2,.o 3,.o 4] rfl (by decide+kernel) rfl (fun K hK=>?_) |refine rd [.o 0,.o 1,.o 2,.o 3,.o 4,.o 5,.o 6,.o 7,.o 8] rfl (by decide+kernel) rfl (fun K hK=>?_) |((first |refine ae ?_ |refine ac ?_);simp(disch:=decide) only[qs,qb,if_true,if_false,reduceIte]) |refine ah rfl (fun K hK=>?_) |refine ct rfl ?_ |((try simp(disch:=omega) only[go_sem,ξ,ζ]);(first |apply hK |(clear hK;apply hK) |(clear hK;clear hK;apply hK));clear hK;(try clear K);(try dsimp only[ag,qs,qb])))
      refine cN rfl rfl rfl rfl (by exact ms f3 hz) ?_;rintro v8 h8 s8 rfl;(repeat (first |(refine wo rfl (fun k hk=>?_);simp(disch:=omega) only[go_sem,ξ,ζ];apply hk;clear hk k) |refine wkt rfl ?_));(try refine wk0 ?_)
      exact cF rfl rfl rfl rfl (by exact jj (by decide)) (fun _ _ h=>h)
     | some b=>
      refine Spec.enter (args:=[_]) (n:=50) Tryz.func198 rfl (by kernel_rfl) rfl (by simp) [.cell 1 25] rfl (fun C _=>?_)
      repeat (first |(refine wo rfl (fun k hk=>?_);simp(disch:=omega) only[go_sem,ξ,ζ];apply hk;clear hk k) |refine wkt rfl ?_ |refine wk0 ?_ |refine rg rfl rfl (fun K hK=>?_) |refine rd [.o 0,.o 1,.o 2,.o 3,.o 4] rfl (by decide+kernel) rfl (fun K hK=>?_) |refine rd [.o 0,.o 1,.o 2,.o 3,.o 4,.o 5,.o 6,.o 7,.o 8] rfl (by decide+kernel) rfl (fun K hK=>?_) |((first |refine ae ?_ |refine ac ?_);simp(disch:=decide) only[qs,qb,if_true,if_false,reduceIte]) |refine ah rfl (fun K hK=>?_) |refine ct rfl ?_ |((try simp(disch:=omega) only[go_sem,ξ,ζ]);(first |apply hK |(clear hK;apply hK) |(clear hK;clear hK;apply hK));clear hK;(try clear K);(try dsimp only[ag,qs,qb])))
      refine wk (fun k hk=>?_);simp(disch:=omega) only[go_sem,ξ,ζ];refine⟨cs,hl,fG hb1,?_⟩;apply hk;clear hk k;(repeat (first |(refine wo rfl (fun k hk=>?_);simp(disch:=omega) only[go_sem,ξ,ζ];apply hk;clear hk k) |refine wkt rfl ?_));(try refine wk0 ?_)
      refine cN rfl rfl rfl rfl (by exact kR) ?_;rintro s1 h1 st1 hs1;obtain⟨_,_,_,_,_,_,_,_,_,_,_,_,_,_,rfl,e1,e2⟩:=hs1.ie;(repeat (first |(refine wo rfl (fun k hk=>?_);simp(disch:=omega) only[go_sem,ξ,ζ];apply hk;clear hk k) |refine wkt rfl ?_));(try refine wk0 ?_)
      (try (simp(disch:=omega) only[go_sem,ξ,ζ]));apply hK;clear hK;(try clear K);(try dsimp only[ag,qs])
      dsimp only[Option.isNone]
      have b1:=dA a b
      have z1:=hs.1 _ rfl
      have z2:=hs.2 _ rfl
      have b2:=bG (a+b)
      have b3:=bB (a+b)
      repeat (first |(refine wo rfl (fun k hk=>?_);simp(disch:=omega) only[go_sem,ξ,ζ];apply hk;clear hk k) |refine wkt rfl ?_ |refine wk0 ?_ |refine rg rfl rfl (fun K hK=>?_) |refine rd [.o 0,.o 1,.o 2,.o 3,.o 4] rfl (by decide+kernel) rfl (fun K hK=>?_) |refine rd [.o 0,.o 1,.o 2,.o 3,.o 4,.o 5,.o 6,.o 7,.o 8] rfl (by decide+kernel) rfl (fun K hK=>?_) |((first |refine ae ?_ |refine ac ?_);simp(disch:=decide) only[qs,qb,if_true,if_false,reduceIte]) |refine ah rfl (fun K hK=>?_) |refine ct rfl ?_ |((try simp(disch:=omega) only[go_sem,ξ,ζ]);(first |apply hK |(clear hK;apply hK) |(clear hK;clear hK;apply hK));clear hK;(try clear K);(try dsimp only[ag,qs,qb])))
      refine cN rfl rfl rfl rfl (by exact iV e1.num e2.num (up36 (hs.1 _ rfl)) (up36 (hs.2 _ rfl))) ?_;rintro v2 h2 s2 f2;obtain⟨na,nl,nc,da,dl,dc,rfl,hn,hd⟩:=f2.sl
      repeat (first |(refine wo rfl (fun k hk=>?_);simp(disch:=omega) only[go_sem,ξ,ζ];apply hk;clear hk k) |refine wkt rfl ?_ |refine wk0 ?_ |refine rg rfl rfl (fun K hK=>?_) |refine rd [.o 0,.o 1,.o 2,.o 3,.o 4] rfl (by decide+kernel) rfl (fun K hK=>?_) |refine rd [.o 0,.o 1,.o 2,.o 3,.o 4,.o 5,.o 6,.o 7,.o 8] rfl (by decide+kernel) rfl (fun K hK=>?_) |((first |refine ae ?_ |refine ac ?_);simp(disch:=decide) only[qs,qb,if_true,if_false,reduceIte]) |refine ah rfl (fun K hK=>?_) |refine ct rfl ?_ |((try simp(disch:=omega) only[go_sem,ξ,ζ]);(first |apply hK |(clear hK;apply hK) |(clear hK;clear hK;apply hK));clear hK;(try clear K);(try dsimp only[ag,qs,qb])))
      refine cN rfl rfl rfl rfl (by exact aL (n:=1) hd (by omega)) ?_;rintro v3 h3 _ f3;obtain⟨v3,v3_l,v3_c,rfl,f3⟩:=f3.sl;(repeat (first |(refine wo rfl (fun k hk=>?_);simp(disch:=omega) only[go_sem,ξ,ζ];apply hk;clear hk k) |refine wkt rfl ?_));(try refine wk0 ?_)
      refine cN rfl rfl rfl rfl (by exact bW (hn.to (h':=h3)) f3 (qBe (a+b).den_nz (by decide)) (by omega) (by have:=cu (a+b).den 1;omega)) ?_;rintro v4 h4 _ f4;obtain⟨v4_0,v4_1,v4_2,v4_3,v4_4,v4_5,v4_6,rfl,f4⟩:=f4.sa;(repeat (first |(refine wo rfl (fun k hk=>?_);simp(disch:=omega) only[go_sem,ξ,ζ];apply hk;clear hk k) |refine wkt rfl ?_));(try refine wk0 ?_)
      (try (simp(disch:=omega) only[go_sem,ξ,ζ]));apply hK;clear hK;(try clear K);(try dsimp only[ag,qs])
      rw[DT] at f4
      repeat (first |(refine wo rfl (fun k hk=>?_);simp(disch:=omega) only[go_sem,ξ,ζ];apply hk;clear hk k) |refine wkt rfl ?_ |refine wk0 ?_ |refine rg rfl rfl (fun K hK=>?_) |refine rd [.o 0,.o 1,.o 2,.o 3,.o 4] rfl (by decide+kernel) rfl (fun K hK=>?_) |refine rd [.o 0,.o 1,.o 2,.o 3,.o 4,.o 5,.o 6,.o 7,.o 8] rfl (by decide+kernel) rfl (fun K hK=>?_) |((first |refine ae ?_ |refine ac ?_);simp(disch:=decide) only[qs,qb,if_true,if_false,reduceIte]) |refine ah rfl (fun K hK=>?_) |refine ct rfl ?_ |((try simp(disch:=omega) only[go_sem,ξ,ζ]);(first |apply hK |(clear hK;apply hK) |(clear hK;clear hK;apply hK));clear hK;(try clear K);(try dsimp only[ag,qs,qb])))
      refine cN rfl rfl rfl rfl (by exact ms f4 hz) ?_;rintro v8 h8 s8 rfl;(repeat (first |(refine wo rfl (fun k hk=>?_);simp(disch:=omega) only[go_sem,ξ,ζ];apply hk;clear hk k) |refine wkt rfl ?_));(try refine wk0 ?_)
      exact cF rfl rfl rfl rfl (by exact jj (by decide)) (fun _ _ h=>h)
theorem Cx {h0 h:PH} [Le h0 h] {v:Value} {x:RI} (hv:Iv h0 v x):Spec mach 128 #[v] h (fun r h'=>Qo h' r (midO x)) NP:=by
 have hv0:=hv
 obtain⟨a1,m1,c1,a2,m2,c2,a3,m3,c3,a4,m4,c4,rfl,_,_⟩:=hv.sa
 refine Spec.enter (args:=[_]) (n:=8) Tryz.func128 rfl (by kernel_rfl) rfl (by simp) [.cell 2 25,.tmp 3] rfl (fun C _=>?_)
 repeat (first |(refine rg rfl rfl (fun K hK=>?_);(repeat (first |(refine wo rfl (fun k hk=>?_);simp(disch:=omega) only[go_sem,ξ,ζ];apply hk;clear hk k) |refine wkt rfl ?_));(try refine wk0 ?_);apply hK;clear hK K;(try dsimp only[ag,qs,qb])) |((first |refine ae ?_ |refine ac ?_);simp(disch:=decide) only[qs,qb,if_true,if_false,reduceIte]) |refine ah rfl (fun K hK=>?_) |refine ct rfl ?_ |((first |refine hK _ _ ?_ |(clear hK;refine hK _ _ ?_) |(clear hK;clear hK;refine hK _ _ ?_));clear hK;(try clear K)))
 refine fk [.p 0,.o 0,.o 1,.o 2,.o 3,.o 4,.o 5] rfl rfl (fun K hK=>?_);(repeat (first |(refine wo rfl (fun k hk=>?_);simp(disch:=omega) only[go_sem,ξ,ζ];apply hk;clear hk k) |refine wkt rfl ?_));(try refine wk0 ?_)
 refine wkp ?_;simp(disch:=omega) only[go_sem,ξ,ζ];intro b1 h1 st1 hb1;(repeat (first |(refine wo rfl (fun k hk=>?_);simp(disch:=omega) only[go_sem,ξ,ζ];apply hk;clear hk k) |refine wkt rfl ?_));(try refine wk0 ?_)
 have hb1:=hb1 (by simp)
 refine cN rfl rfl rfl rfl (by exact tryQ_any (Middle1 (hv0.to (h':=h1)) rfl rfl hb1)) ?_;rintro r3 h3 st3 hr3;obtain⟨_,_,_,_,_,_,_,_,rfl,hr3⟩:=hr3.sa;(repeat (first |(refine wo rfl (fun k hk=>?_);simp(disch:=omega) only[go_sem,ξ,ζ];apply hk;clear hk k) |refine wkt rfl ?_));(try refine wk0 ?_)
 (try (simp(disch:=omega) only[go_sem,ξ,ζ]));apply hK;clear hK;(try clear K);(try dsimp only[ag,qs])
 refine ai ?_;simp(disch:=omega) only[go_sem,ξ,ζ]
 exact hr3
def Qc (h:PH) (cs:List Value) (s:ByteArray×Rat):Prop:=∃ds:List Value,cs=.string s.1 :: ds∧ds.length=3∧Cn h (.agg ds.toArray) s.2
def Pcx (h:PH) (v:Value) (l:List (ByteArray×Rat)):Prop:=∃a c,v=.slice a l.length c∧∀i s,l[i]?=some s→∃ad cs,a=some ad∧Qc h cs s∧∀j v,cs[j]?=some v→h.at ((ad.add (i*4)).add j)=some v
theorem Pcx.of {h:PH} {b c:Nat} {row:List Value} {l:List (ByteArray×Rat)} (hb:h b=some row.toArray) (hr:RowOf 4 (Qc h) row l):Pcx h (.slice (some ⟨b,0,none⟩) l.length c) l:=by
 refine⟨_,_,rfl,fun i s hi=>⟨_,_,rfl,hr.2 i s hi,fun j v hj=>?_⟩⟩
 rw[at_off hb]
 rw[List.getElem?_take] at hj
 split at hj
 ·rw[List.getElem?_drop] at hj
  simpa using hj
 ·cases hj
theorem Pcx.to {h h':PH} {v:Value} {l:List (ByteArray×Rat)} (r:Pcx h v l) [t:Le h h']:Pcx h' v l:=by
 obtain⟨a,c,rfl,k⟩:=r
 refine⟨a,c,rfl,fun i s hi=>?_⟩
 obtain⟨ad,cs,h1,⟨ds,e1,e2,e3⟩,h3⟩:=k i s hi
 exact⟨ad,cs,h1,⟨ds,e1,e2,e3.to⟩,fun j v hj=>t.sub.at (h3 j v hj)⟩
def cq (x:Sd1):ByteArray×Rat:=(x.1,midQ x.2.set)
def cenOk (l:List Sd1):Bool:=l.all fun x=>decide (sz (midQ x.2.set)≤2048)
def CenV (h:PH) (r:Value) (l:List Sd1):Prop:=match cenOk l with
 |true=>∃u,r=.tuple #[u,.int .i64 0]∧Pcx h u (l.map cq)
 |false=>r=.tuple #[.slice none 0 0,.int .i64 1]
def CenR (h:PH) (r:Value) (l:List Sd1):Prop:=match okB l with
 |true=>CenV h r l
 |false=>r=.tuple #[.slice none 0 0,.int .i64 50]
theorem okB_void {l:List Sd1} (h:okB l=true) {i:Nat} {x:Sd1} (hx:l[i]?=some x):x.2.set.void=false:=by
 unfold okB at h
 rw[φ] at h
 have:=qBd.1 h.2 i (List.mem_range.2 (List.getElem?_eq_some_iff.1 hx).1)
 unfold okS at this
 rw[hx] at this
 simp only[φ,Bool.not_eq_true'] at this
 exact this.2
theorem map_take {α β:Type} {f:α→β} {l:List α} {i:Nat} {y:α} (hy:l[i]?=some y):(l.take (i+1)).map f=(l.take i).map f ++[f y]:=by
 rw[List.take_add_one,hy];simp
theorem cenOk_yes {l:List Sd1} (h:∀j x,j < l.length→l[j]?=some x→decide (sz (midQ x.2.set)≤2048)=true):cenOk l=true:=qBd.2 fun x hx=>by
 obtain⟨j,hj⟩:=List.getElem?_of_mem hx
 exact h j x (List.getElem?_eq_some_iff.1 hj).1 hj
set_option maxHeartbeats 8000000



theorem okB_big {l:List Sd1} (h:okB l=true) {i:Nat} {x:Sd1} (hx:l[i]?=some x):x.2.big=false:=by
 unfold okB at h
 rw[φ] at h
 have:=qBd.1 h.2 i (List.mem_range.2 (List.getElem?_eq_some_iff.1 hx).1)
 unfold okS at this
 rw[hx] at this
 simp only[φ,Bool.not_eq_true'] at this
 exact this.1.2
theorem Boxv.side {h:PH} {v:Value} {l:List Sd1} (r:Boxv h v l):∃a c,v=.slice a l.length c∧l.length≤2^30∧∀i x,l[i]?=some x→∃ad a1 m1 c1 a2 m2 c2 a3 m3 c3 a4 m4 c4,a=some ad∧
  (∀j v,([.string x.1,.bool x.2.n1,.slice a1 m1 c1,.slice a2 m2 c2,.bool x.2.n2,.slice a3 m3 c3,.slice a4 m4 c4,.bool x.2.l,.bool x.2.u]:List Value)[j]?=some v→h.at ((ad.add (i*9)).add j)=some v)∧
  Rw h (.agg #[.bool x.2.n1,.slice a1 m1 c1,.slice a2 m2 c2]) x.2.n1 x.2.a1 x.2.d1∧Rw h (.agg #[.bool x.2.n2,.slice a3 m3 c3,.slice a4 m4 c4]) x.2.n2 x.2.a2 x.2.d2∧Iv h (.agg #[.bool x.2.n1,.slice a1 m1 c1,.slice a2 m2 c2,.bool x.2.n2,.slice a3 m3 c3,.slice a4 m4 c4,.bool x.2.l,.bool x.2.u]) x.2:=by
 obtain⟨a,c,rfl,hl,k⟩:=r
 refine⟨a,c,rfl,hl,fun i x hx=>?_⟩
 obtain⟨ad,b1,a1,m1,c1,a2,m2,c2,b2,a3,m3,c3,a4,m4,c4,e,u,rfl,hat,hiv⟩:=k i x hx
 obtain⟨_,_,_,_,_,_,_,_,_,_,_,_,e0,r1,r2⟩:=hiv.sa
 have e1:=e0
 simp only[Value.agg.injEq,Array.mk.injEq,List.cons.injEq,and_true,Value.bool.injEq] at e1
 obtain⟨rfl,g1,g2,rfl,g3,g4,rfl,rfl⟩:=e1
 rw[←g1,←g2] at r1
 rw[←g3,←g4] at r2
 exact⟨ad,a1,m1,c1,a2,m2,c2,a3,m3,c3,a4,m4,c4,rfl,hat,r1,r2,hiv⟩
end Go.Q
namespace Go.Q
open Go.Proofs Go.RowKit
attribute [local go_sem] Oper.semAt_some
set_option maxRecDepth 100000
set_option maxHeartbeats 4000000
def sideF (l:List Sd1) (h:PH) (i:Nat) (x:Nat×List Value) (W0 W1:World):Prop:=x.1=i∧ivC x.2∧∃hn s,l[i]?=some s∧Sub h hn∧Has W1 hn∧New W0.heap.size h hn∧Iv hn (.agg x.2.toArray) s.2
def nmAt (l:List Sd1) (i:Nat):ByteArray:=(l[i]?.map (·.1)).getD ⟨#[]⟩
theorem box_x {n:Nat} {h0 h:PH} [l0:Le h0 h] {v:Value} {l:List Sd1} (hv:Boxv h0 v l) (hg:Sub mach.gl h) {B:Nat} {T:TypeId} {f:Nat×Nat}:
  SeqX Fence.wide n Tryz.prog 96 #[.pointer (some ⟨B,0,none⟩)] (fun x:Nat×List Value=>#[.int .i64 x.1,.agg (.string (nmAt l x.1) :: x.2).toArray]) (sideF l h) l.length (fun W=>Has W h∧W.heap[B]?=some (.cells #[v] T f)):=by
 obtain⟨a,c,rfl,hl,k⟩:=hv
 have k':∀i,∃C:List Value,∀s,l[i]?=some s→ivC C∧Iv h0 (.agg C.toArray) s.2∧∃ad:Addr,a=some ad∧∀j u,(sdC s.1 C)[j]?=some u→h0.at ((ad.add (i*9)).add j)=some u:=fun i=>by
  cases e:l[i]? with
  |none=>exact⟨[],fun s hs=>by cases hs⟩
  | some s=>
   obtain⟨ad,b1,a1,m1,c1,a2,m2,c2,b2,a3,m3,c3,a4,m4,c4,e,u,h1,h2,h3⟩:=k i s e
   exact⟨_,fun s' hs=>by cases hs;exact⟨⟨b1,a1,m1,c1,a2,m2,c2,b2,a3,m3,c3,a4,m4,c4,e,u,rfl⟩,h3,ad,h1,h2⟩⟩
 obtain⟨C,hC⟩:=Classical.axiomOfChoice k'
 have hs:∀i,i < l.length→∃s,l[i]?=some s:=fun i hi=>⟨_,List.getElem?_eq_getElem hi⟩
 obtain⟨blk,off,hA⟩:∃blk off,∀i,i < l.length→a=some ⟨blk,off,none⟩:=by
  cases a with
  |none=>exact⟨0,0,fun i hi=>by
    obtain⟨s,h1⟩:=hs i hi
    obtain⟨_,_,_,e,_⟩:=hC i s h1
    cases e⟩
  | some ad=>
   refine⟨ad.block,ad.off,fun i hi=>?_⟩
   obtain⟨s,h1⟩:=hs 0 (by omega)
   obtain⟨_,_,ad',e,h2⟩:=hC 0 s h1
   cases e
   have h3:=h2 0 _ rfl
   have hsp:ad.spot=none:=by
    cases e:ad.spot with
    |none=>rfl
    |some q=>simp[PH.at,Addr.add,e] at h3
   cases ad
   cases hsp
   rfl
 have hat:∀W,(Has W h∧W.heap[B]?=some (.cells #[.slice a l.length c] T f))→∀i,i < l.length→∀(j:Nat) u,(sdC (nmAt l i) (C i))[j]?=some u→W.cell? ⟨blk,off+i*9+j,none⟩=some u:=fun W hw i hi j u hu=>by
  obtain⟨s,h1⟩:=hs i hi
  obtain⟨_,_,ad,e,h2⟩:=hC i s h1
  rw[hA i hi] at e
  cases e
  have hn:nmAt l i=s.1:=by unfold nmAt;rw[h1];rfl
  rw[hn] at hu
  have h3:=hw.1.cell (l0.sub.at (h2 j u hu))
  have e:((⟨blk,off,none⟩:Addr).add (i*9)).add j=⟨blk,off+i*9+j,none⟩:=by
   unfold Addr.add
   split<;>split<;>simp_all
  rwa[e] at h3
 refine(sides_x (n:=n) (T:=T) (f:=f) (blk:=blk) (off:=off) hl (fun W hw=>hw.2) (fun A D hA hb=>⟨hA.1.below hb,(hb.block _ (Array.getElem?_eq_some_iff.1 hA.2).1).trans hA.2⟩) hA (S:=nmAt l) (C:=C) (fun i hi=>let ⟨s,h1⟩:=hs i hi;(hC i s h1).1) hat
  (Own:=fun i u W W'=>ivC u∧∃hn s,l[i]?=some s∧Sub h hn∧Has W' hn∧New W.heap.size h hn∧Iv hn (.agg u.toArray) s.2) (fun i m W hi hb=>?_)).mono fun i x W0 W1 hf=>?_
 ·obtain⟨s,h1⟩:=hs i hi
  refine callsIn_wide.2 (((Own_spec (h0:=h0) (h:=h) (hC i s h1).2.1).run W hb.1 hg).mono fun e W' hp=>?_)
  cases e with
  |outgrown=>exact(hp:False).elim
  |panicked ch=>obtain⟨_,_,_,_,_,hp⟩:=hp;exact(hp:False).elim
  | returned v=>
   obtain⟨hn,p1,p2,p3,p4,p5⟩:=hp
   obtain⟨_,_,_,_,_,_,_,_,_,_,_,_,rfl,_,_⟩:=p5.sa
   exact⟨_,rfl,⟨_,_,_,_,_,_,_,_,_,_,_,_,_,_,_,_,rfl⟩,p1,⟨_,_,_,_,_,_,_,_,_,_,_,_,_,_,_,_,rfl⟩,hn,s,h1,p3,p2,p4,p5⟩
 ·obtain⟨e,Wc,hb,hi,hn,s,h1,h2,h3,h4,h5⟩:=hf
  refine⟨e,hi,hn,s,h1,h2,h3,fun k hk=>?_,h5⟩
  rcases h4 k hk with g |g
  ·exact .inl g
  ·exact .inr (χ hb.size g)
theorem Has.set {W:World} {h:PH} (hh:Has W h) {b:Nat} (hb:h b=none) (v:Value):Has (W.setCell ⟨b,0,none⟩ v) h:=hh.kept (grownBy_setCell' W b v) (fun r e=>by cases e;exact hb)
def cenI (w:World) (h:PH) (l:List Sd1) (va:Option Addr) (vc:Nat) (i:Nat) (W:World):Prop:=(∃hp u,Col w h (w.heap.size+1+1) 42 66 4 Qc [(w.heap.size,#[.slice none 0 0],42),(w.heap.size+1,#[.int .i64 0],28),(w.heap.size+1+1+1,#[.slice va l.length vc],22)] ((l.take i).map cq) hp u W)∧∀j x',j < i→l[j]?=some x'→decide (sz (midQ x'.2.set)≤2048)=true
def cenX (w:World) (h:PH) (l:List Sd1) (c:Code) (W:World):Prop:=(c=.ret∧cenOk l=false)∧Quit w h [(w.heap.size,#[.slice none 0 0],42),(w.heap.size+1,#[.int .i64 1],28)] W
def cenM (w:World) (h:PH) (l:List Sd1) (va:Option Addr) (vc:Nat) (i:Nat) (x:Nat×List Value) (a':Act) (W:World):Prop:=
 (∃ hp u,(∃Bx s,Col w h (w.heap.size+1+1) 42 66 4 Qc [(Bx,(.string (nmAt l x.1) :: x.2).toArray,82),(w.heap.size,#[.slice none 0 0],42),(w.heap.size+1,#[.int .i64 0],28),(w.heap.size+1+1+1,#[.slice va l.length vc],22)] ((l.take i).map cq) hp u W∧l[i]?=some s∧Iv hp (.agg x.2.toArray) s.2∧
    a'={tmps:=#[.slice va l.length vc,undef,.pointer (some ⟨w.heap.size,0,none⟩),.pointer (some ⟨w.heap.size+1,0,none⟩),.pointer (some ⟨w.heap.size+1+1,0,none⟩),undef,.pointer (some ⟨Bx,0,none⟩),undef,undef,.slice va l.length vc,.func (.func 96) #[] #[.pointer (some ⟨w.heap.size+1+1+1,0,none⟩)],.int .i64 x.1,.agg (.string (nmAt l x.1) :: x.2).toArray,undef,undef,undef,undef,undef,undef,undef,undef,undef,undef,undef,undef,undef,undef,undef,undef,undef],defers:=[]}))∧
    (x.1=i∧ivC x.2∧∀j x',j < i→l[j]?=some x'→decide (sz (midQ x'.2.set)≤2048)=true)
theorem qc_up (a b:PH) (hs:Sub a b) (cs:List Value) (s:ByteArray×Rat) (q:Qc a cs s):Qc b cs s:=by
 haveI:Le a b:=⟨hs⟩
 obtain⟨ds,e1,e2,e3⟩:=q
 exact⟨ds,e1,e2,e3.to⟩
theorem center_ok {h0 h:PH} [l0:Le h0 h] {v:Value} {l:List Sd1} (hv:Boxv h0 v l) (hok:okB l=true):Spec mach 75 #[v] h (fun r h'=>CenV h' r l) NP:=by
 refine⟨by kernel_rfl,fun w hw hg=>?_⟩
 refine(callsIn_wide (n:=8)).1 ?_
 show CallsIn Fence.wide 8 Tryz.prog _ _ w _
 have hro:Fence.wide.round=none:=rfl
 have g1:Fence.wide.fn 42:=trivial
 have g2:Fence.wide.fn 128:=trivial
 have kX:=fun {B:Nat}=>box_x (n:=8) (B:=B) (T:=22) (f:=(0,0)) hv hg
 obtain⟨va,vc,rfl,_⟩:=hv
 refine callsIn_of_wp_marks Tryz.func75 rfl trivial ?_ hro
 simp only[Tryz.ntmps75,List.size_toArray,List.length_cons,List.length_nil,ζ,Nat.reduceSub,Array.replicate_succ,Array.replicate_zero,List.push_toArray,List.append_toArray,List.nil_append,List.cons_append]
 gi_wp2_with (gi_at_call 42;refine(sides_in (n:=7)).mono ?_;rintro e w2 ⟨rfl,rfl⟩)
 obtain⟨W0,hW0⟩:∃W0,(((w.alloc (.cells #[.slice none 0 0] 42)).alloc (.cells #[.int .i64 0] 28)).alloc (.cells #[.slice none 0 0] 42)).alloc (.cells #[.slice va l.length vc] 22)=W0:=⟨_,rfl⟩
 rw[hW0]
 have hb0:Below w.heap.size w W0:=by
  rw[←hW0]
  exact((((Below.refl _ w).alloc (η _) _).alloc (by simp) _).alloc (by simp;omega) _).alloc (by simp;omega) _
 have hs0:W0.heap.size=w.heap.size+4:=by rw[←hW0];simp
 have b3:W0.heap[w.heap.size+1+1+1]?=some (.cells #[.slice va l.length vc] 22 (0,0)):=by
  rw[←hW0];simpa using World.alloc_heap_new (((w.alloc (.cells #[.slice none 0 0] 42)).alloc (.cells #[.int .i64 0] 28)).alloc (.cells #[.slice none 0 0] 42)) (.cells #[.slice va l.length vc] 22)
 have b2:Boxed W0 (w.heap.size+1+1) 42 (.slice none 0 0):=by
  rw[←hW0];exact(by simpa using Boxed.new ((w.alloc (.cells #[.slice none 0 0] 42)).alloc (.cells #[.int .i64 0] 28)) 42 (.slice none 0 0):Boxed _ (w.heap.size+1+1) _ _).alloc _
 have b1:Boxed W0 (w.heap.size+1) 28 (.int .i64 0):=by
  rw[←hW0];exact((by simpa using Boxed.new (w.alloc (.cells #[.slice none 0 0] 42)) 28 (.int .i64 0):Boxed _ (w.heap.size+1) _ _).alloc _).alloc _
 have b0:Boxed W0 w.heap.size 42 (.slice none 0 0):=by
  rw[←hW0];exact(((Boxed.new w 42 (.slice none 0 0)).alloc _).alloc _).alloc _
 have hw0:Has W0 h:=hw.below hb0
 clear hW0
 refine range_x (n:=8) hro (by decide) (gf:=96) (lb:=#[.pointer (some ⟨w.heap.size+1+1+1,0,none⟩)]) rfl trivial (enters_of Tryz.func96 (by kernel_rfl) rfl)
  kX (fun W hb=>⟨hw0.below hb,(hb.block _ (by omega)).trans b3⟩) (fun _=>rfl)
  (cenI w h l va vc) (cenX w h l)
  (col_own (by omega) (fun i=>(l.take i).map cq) _) (quit_own (by omega) (fun c=>c=Code.ret∧cenOk l=false) (fun _=>_)) (fun i W ⟨⟨hp,u,c⟩,_⟩=>⟨fun b cs hx=>c.has b cs (c.sub _ _ hx),(c.rest _ (List.mem_cons_of_mem _ (List.mem_cons_of_mem _ (qAt ..)))).1⟩)
  ⟨⟨h,_,Col.start hw hb0 (by omega) b2 (fun x hx=>by
   rcases List.mem_cons.1 hx with rfl |hx
   ·exact⟨b0,η _,by show w.heap.size≠_;omega⟩
   ·rcases List.mem_cons.1 hx with rfl |hx
    ·exact⟨b1,by show _≤w.heap.size+1;omega,by show w.heap.size+1≠_;omega⟩
    ·obtain rfl:=qBc.1 hx
     exact⟨b3,by show _≤w.heap.size+1+1+1;omega,by show w.heap.size+1+1+1≠_;omega⟩)⟩,fun j x' hj=>by omega⟩
  (cenM w h l va vc)
  (fun i x a' _ _ _ _ ⟨⟨hp,u,Bx,s,c,q⟩,g⟩ hg hr=>⟨⟨hp,u,Bx,s,c.kept hg fun r e=>⟨χ (by omega) (hr r e).1,(hr r e).2⟩,q⟩,g⟩)
  ?assign ?body ?done ?stop
 case assign=>
  rintro lr i ⟨xi,xl⟩ Wa W hi ⟨⟨hp,u,c⟩,hG⟩ hgr _ ⟨rfl,⟨p1,p2,p3,p4,p5,p6,p7,p8,p9,p10,p11,p12,p13,p14,p15,p16,rfl⟩,hn,s,h1,h2,h3,h4,h5⟩
  obtain⟨hj,c2,j2,_⟩:=c.meet hgr h2 h3 h4 qc_up
  haveI:Le hn hj:=⟨j2⟩
  dsimp only
  gi_wp2
  refine⟨(KeepsOthers.alloc _ _).from _,?_⟩
  unfold cenM
  exact⟨⟨hj,u,_,s,c2.push _ _,h1,h5.to,rfl⟩,rfl,⟨_,_,_,_,_,_,_,_,_,_,_,_,_,_,_,_,rfl⟩,hG⟩
 case body =>
  rintro lr i ⟨xi,xl⟩ a' W hi ⟨⟨hp,u,Bx,s,c,h1,h5,rfl⟩,rfl,⟨p1,p2,p3,p4,p5,p6,p7,p8,p9,p10,p11,p12,p13,p14,p15,p16,rfl⟩,hG⟩
  dsimp only at c h5 ⊢
  have hBx:=(c.rest _ (qAt ..)).1
  dsimp only at hBx
  have d0:=bx_cell hBx 0
  have d1:=bx_cell hBx 1
  have d2:=bx_cell hBx 2
  have d3:=bx_cell hBx 3
  have d4:=bx_cell hBx 4
  have d5:=bx_cell hBx 5
  have d6:=bx_cell hBx 6
  have d7:=bx_cell hBx 7
  have d8:=bx_cell hBx 8
  simp only[List.getElem?_toArray,List.getElem?_cons_zero,List.getElem?_cons_succ] at d0 d1 d2 d3 d4 d5 d6 d7 d8
  have kM:=Cx (h0:=hp) (h:=hp) h5
  unfold midO at kM
  rw[okB_big hok h1,cond_false,okB_void hok h1,cond_false] at kM
  cases hs:decide (sz (midQ s.2.set)≤2048) with
  | false=>
   rw[hs,cond_false] at kM
   unfold Qo zRat at kM
   gi_wp2_with (gi_at_call 128;refine(CallsIn.inRound lr (callsIn_wide.2 (kM.run W c.has (hg.trans c.sub)))).mono ?_;rintro e W2 hP;obtain⟨_,hm,rfl,q1,q2,q3,q4,rfl⟩:=post_ret hP;have c2:=(c.up q3 q2 q1 q4 (qc_up _ _ q3)).less (R':=[(w.heap.size,#[.slice none 0 0],42),(w.heap.size+1,#[.int .i64 0],28),(w.heap.size+1+1+1,#[.slice va l.length vc],22)]) (fun x hx=>List.mem_cons_of_mem _ hx);have r0:=fun o=>((c2.alloc o).rest _ (qAt ..)).1;have r1:=fun o=>((c2.alloc o).rest _ (List.mem_cons_of_mem _ (qAt ..))).1;dsimp only at r0 r1;have r2:=fun o=>Boxed.cell (r0 o);have r3:=fun o=>Boxed.frozen (r0 o);have r4:=fun o v=>Boxed.cell (Boxed.kept (r1 o) (grownBy_setCell' _ w.heap.size v) (by simp));have r5:=fun o v=>Boxed.frozen (Boxed.kept (r1 o) (grownBy_setCell' _ w.heap.size v) (by simp)))
   obtain⟨t1,t2,t3⟩:=(c2.alloc (.cells #[.bool false,.slice none 0 0,.slice none 0 0] 25)).two (.slice none 0 0) (.int .i64 1)
   refine⟨(keeps_of_below q1).trans (((KeepsOthers.alloc _ _).trans ((KeepsOthers.setCell _ _ _).trans (KeepsOthers.setCell _ _ _))).from _),?_⟩
   unfold cenX
   refine⟨⟨rfl,List.all_eq_false.2 ⟨s,List.mem_of_getElem? h1,by rw[hs];decide⟩⟩,t1.quit fun x hx=>?_⟩
   rcases List.mem_cons.1 hx with rfl |hx
   ·exact t2
   ·rcases List.mem_cons.1 hx with rfl |hx
    ·exact t3
    ·cases hx
  | true=>
   rw[hs,cond_true] at kM
   unfold Qo at kM
   have h6:l.length≤6:=by
    unfold okB at hok
    rw[φ] at hok
    exact of_decide_eq_true hok.1
   obtain⟨e0,i0,z0,hU,hi0,hz0,hz1,hz2,_,hy1,hy2⟩:=mkN_some (P:=Tryz.prog) (T:=42) (sz:=4) (by kernel_rfl)
   obtain rfl:e0=66:=by have:=hU.symm.trans Tryz.underlying42;simpa using this
   have hlen:((l.take xi).map cq).length≤6:=by simp;omega
   gi_wp2_with (first
    |(gi_at_call 128;refine(CallsIn.inRound lr (callsIn_wide.2 (kM.run W c.has (hg.trans c.sub)))).mono ?_;rintro e W2 hP;obtain⟨_,hm,rfl,q1,q2,q3,q4,u',rfl,hc5⟩:=post_ret hP;obtain⟨m_0,m_1,m_2,m_3,m_4,m_5,m_6,rfl,hc5⟩:=hc5.sa;have c2:=c.up q3 q2 q1 q4 (qc_up _ _ q3);have r0:=fun o=>((c2.alloc o).rest _ (qAt ..)).1;dsimp only at r0;have r2:=fun o=>bx_cell (r0 o) 0;simp only[List.getElem?_toArray,List.getElem?_cons_zero] at r2;have r3:=fun o=>Boxed.cell (c2.alloc o).box;obtain⟨xs,hx,hR⟩:=(c2.alloc (.cells #[.bool m_0,.slice m_1 m_2 m_3,.slice m_4 m_5 m_6] 25)).row)
    |(gi_at_builtin;refine wpListIn_append_own_at _ rfl _ _ 42 rfl w.heap.size 66 i0 z0 4 i0.bytes hU hi0 hz0 hz1 rfl hz2 (by decide) u _ xs rfl (hx.alloc _) ⟨W2.heap.size+1,0,none⟩ 1 1 [.string (nmAt l xi),.bool m_0,.slice m_1 m_2 m_3,.slice m_4 m_5 m_6] rfl rfl ?_ (by simp[Value.oneCell']) (by unfold maxLen;omega) ?_ ?_ ?_))
   ·exact new_cells (by simp) #[.string (nmAt l xi),.bool m_0,.slice m_1 m_2 m_3,.slice m_4 m_5 m_6] _
   ·exact χ (qAk (Nat.succ_le_succ hlen) hy2) (by decide)
   ·have:=c2.below.size
    simp;omega
   ·intro v' w1 hown hgrow _ hat
    obtain⟨g',cap',e'⟩:=ownsRow_succ hown
    have hn:nmAt l xi=s.1:=by unfold nmAt;rw[h1];rfl
    obtain⟨k1,k2,k3⟩:=(c2.alloc (.cells #[.bool m_0,.slice m_1 m_2 m_3,.slice m_4 m_5 m_6] 25)).app (s:=cq s) (cs:=[.string (nmAt l xi),.bool m_0,.slice m_1 m_2 m_3,.slice m_4 m_5 m_6]) (by decide) (by omega) hx hR rfl ⟨_,by rw[hn];rfl,rfl,hc5⟩ (by simpa using hown) hgrow (by simpa using hat)
    rw[←map_take h1] at k2
    have e1:=k1.cell
    have e2:=k1.frozen
    subst e'
    gi_wp2
    refine⟨(keeps_of_below q1).trans (((KeepsOthers.alloc _ _).trans k3).from _),?_⟩
    unfold cenI
    refine⟨⟨hm,_,k2.less fun x hx=>List.mem_cons_of_mem _ hx⟩,fun j x' hj hx'=>?_⟩
    ·rcases qBj j xi with g |g
     ·exact hG j x' g hx'
     ·obtain rfl:j=xi:=by omega
      rw[h1] at hx';cases hx';exact hs
 case done=>
  rintro D W hD ⟨⟨hp,u,c⟩,hG⟩ hK
  obtain⟨ua,un,uc,rfl⟩:∃a n c,u=.slice a n c:=by
   obtain⟨xs,h1,_⟩:=c.row
   rcases h1.2 with⟨rfl,_⟩ |⟨g,cap,cur,rfl,_⟩
   ·exact⟨_,_,_,rfl⟩
   ·exact⟨_,_,_,rfl⟩
  have r0:Boxed W w.heap.size 42 (.slice none 0 0):=(c.rest _ (qAt ..)).1
  have r1:Boxed W (w.heap.size+1) 28 (.int .i64 0):=(c.rest _ (List.mem_cons_of_mem _ (qAt ..))).1
  have e0:=c.box.cell
  have e1:=r0.cell
  have e2:=r0.frozen
  have e3:=fun v=>(r1.kept (grownBy_setCell' W w.heap.size v) (by simp)).cell
  have e4:=fun v=>(r1.kept (grownBy_setCell' W w.heap.size v) (by simp)).frozen
  gi_wp2
  have hK2:=((KeepsOthers.setCell W ⟨w.heap.size,0,none⟩ (.slice ua un uc)).trans (KeepsOthers.setCell _ ⟨w.heap.size+1,0,none⟩ (.int .i64 0))).same D _ hK rfl
  obtain⟨t1,t2,t3⟩:=c.two (.slice ua un uc) (.int .i64 0)
  have f2:=(t2.kept (grownBy_putObj' _ D (.deferred none)) (by simp;omega)).cell
  have f3:=(t3.kept (grownBy_putObj' _ D (.deferred none)) (by simp;omega)).cell
  refine⟨by simp,.inl ⟨_,_,rfl,run_takeDeferred hK2,?_⟩⟩
  refine⟨_,results_cell2 rfl rfl rfl (by go_simp;rfl) (by go_simp;rfl),?_⟩
  have c3:=t1.kept (grownBy_putObj' _ D (.deferred none)) (fun r e=>by cases e;exact⟨by omega,_,hK2,rfl⟩)
  rw[List.take_length] at c3
  obtain⟨hf,m1,m2,m3,a,cap,e,k⟩:=c3.fin (qc_up _)
  refine⟨hf,c3.below,m1,m2,m3,?_⟩
  unfold CenV
  rw[cenOk_yes hG]
  exact⟨_,rfl,a,cap,e,k⟩
 case stop=>
  rintro D cc W hD ⟨⟨rfl,hcen⟩,hp,m1,m2,m3,m4,m5⟩ hK
  have b0:Boxed W w.heap.size 42 (.slice none 0 0):=m5 _ (qAt ..)
  have b1:Boxed W (w.heap.size+1) 28 (.int .i64 1):=m5 _ (List.mem_cons_of_mem _ (qAt ..))
  gi_wp2
  have f2:=(b0.kept (grownBy_putObj' _ D (.deferred none)) (by simp;omega)).cell
  have f3:=(b1.kept (grownBy_putObj' _ D (.deferred none)) (by simp;omega)).cell
  refine⟨by simp,.inl ⟨_,_,rfl,run_takeDeferred hK,?_⟩⟩
  refine⟨_,results_cell2 rfl rfl rfl (by go_simp;rfl) (by go_simp;rfl),?_⟩
  refine⟨hp,m4.grown (grownBy_putObj' _ D (.deferred none)) m4.size (fun k e=>by cases e;omega),m2.kept (grownBy_putObj' _ D (.deferred none)) (fun r e=>?_),m1,m3,?_⟩
  ·cases e
   cases ex:hp D with
   |none=>rfl
   | some cs=>
    obtain⟨_,_,hx⟩:=m2 _ _ ex
    rw[hK] at hx;cases hx
  ·unfold CenV
   rw[hcen]
end Go.Q
namespace Go.Q
open Go.Proofs
set_option maxRecDepth 100000
set_option maxHeartbeats 8000000
theorem Center_spec {h0 h:PH} [Le h0 h] {v:Value} {l:List Sd1} (hv:Boxv h0 v l):Spec mach 30 #[v] h (fun r h'=>CenR h' r l) NP:=by
 have kV:=fun {h} [Le h0 h]=>BValid_spec (h:=h) hv
 have kC:=fun(g:okB l=true) {h} [Le h0 h]=>center_ok (h:=h) hv g
 unfold CenR CenV
 unfold CenV at kC
 obtain⟨_,_,_,rfl⟩:=hv.sa
 cases g1:okB l with
 | false=>
  rw[g1] at kV
  refine Spec.go [] Tryz.func30 rfl rfl (by kernel_rfl) fun C _=>?_
  try simp(maxSteps:=999999) (disch:=omega) only[go_sem,ξ,ζ]
  refine caN (by exact kV) ?_;rintro v1 h1 s1 rfl
  try simp(maxSteps:=999999) (disch:=omega) only[go_sem,ξ,ζ]
  all_goals exact trivial
 | true=>
  rw[g1] at kV
  have kC:=fun {h} [Le h0 h]=>kC g1 (h:=h)
  cases g2:cenOk l with
  | false=>
   rw[g2] at kC
   refine Spec.go [] Tryz.func30 rfl rfl (by kernel_rfl) fun C _=>?_
   try simp(maxSteps:=999999) (disch:=omega) only[go_sem,ξ,ζ]
   refine caN (by exact kV) ?_;rintro v1 h1 s1 rfl
   try simp(maxSteps:=999999) (disch:=omega) only[go_sem,ξ,ζ]
   refine caN (by exact kC) ?_;rintro v2 h2 s2 rfl
   try simp(maxSteps:=999999) (disch:=omega) only[go_sem,ξ,ζ]
   all_goals exact trivial
  | true=>
   rw[g2] at kC
   refine Spec.go [] Tryz.func30 rfl rfl (by kernel_rfl) fun C _=>?_
   try simp(maxSteps:=999999) (disch:=omega) only[go_sem,ξ,ζ]
   refine caN (by exact kV) ?_;rintro v1 h1 s1 rfl
   try simp(maxSteps:=999999) (disch:=omega) only[go_sem,ξ,ζ]
   refine caN (by exact kC) ?_;rintro v2 h2 s2 ⟨u,rfl,q2⟩;have q2':=q2;obtain⟨_,_,rfl,_⟩:=q2'
   try simp(maxSteps:=999999) (disch:=omega) only[go_sem,ξ,ζ]
   exact⟨_,rfl,q2⟩
namespace NS
def clo:NS→Rat
 |.e=>1
 |.i a _=>a.getD 0
def chi:NS→Rat
 |.e=>0
 |.i _ b=>b.getD 0
theorem le_c {k:Nat} {x:NS} (hk:1≤k) (h:x.le k):sz x.clo≤k∧sz x.chi≤k:=by
 have h0:sz 0≤k:=χ HY hk
 have h1:sz 1≤k:=χ (by decide) hk
 cases x with
 |e=>exact⟨h1,h0⟩
 | i a b=>
  rw[le_i] at h
  refine⟨?_,?_⟩
  ·cases a with
   |none=>exact h0
   |some a=>exact h.1 _ rfl
  ·cases b with
   |none=>exact h0
   |some b=>exact h.2 _ rfl
end NS
theorem Cv.fl {h:PH} {v:Value} {x:NS} (r:Cv h v x):∃b1 a1 m1 c1 a2 m2 c2 b2 a3 m3 c3 a4 m4 c4,v=.agg #[.bool b1,.slice a1 m1 c1,.slice a2 m2 c2,.bool b2,.slice a3 m3 c3,.slice a4 m4 c4,.bool x.loN,.bool x.hiN]∧
  Cn h (.agg #[.bool b1,.slice a1 m1 c1,.slice a2 m2 c2]) x.clo∧Cn h (.agg #[.bool b2,.slice a3 m3 c3,.slice a4 m4 c4]) x.chi:=by
 have r0:=r
 obtain⟨b1,x1,y1,b2,x2,y2,rfl,h1,h2⟩:=r
 obtain⟨_,_,_,_,_,_,_,e1,_⟩:=h1.sa
 obtain⟨_,_,_,_,_,_,_,e2,_⟩:=h2.sa
 simp only[Value.agg.injEq,Array.mk.injEq,List.cons.injEq,and_true] at e1 e2
 obtain⟨_,rfl,rfl⟩:=e1
 obtain⟨_,rfl,rfl⟩:=e2
 cases x with
 |e=>exact⟨_,_,_,_,_,_,_,_,_,_,_,_,_,_,rfl,h1,h2⟩
 |i a b=>exact⟨_,_,_,_,_,_,_,_,_,_,_,_,_,_,rfl,h1,h2⟩
def NS.ri (x:NS):RI:=⟨decide (x.clo.num < 0),x.clo.num.natAbs,if x.clo.den=1 then 0 else x.clo.den,decide (x.chi.num < 0),x.chi.num.natAbs,if x.chi.den=1 then 0 else x.chi.den,x.loN,x.hiN⟩
theorem Cv.iv {h:PH} {v:Value} {x:NS} (r:Cv h v x) (hf:x.le 2048):Iv h v x.ri:=by
 obtain⟨b1,a1,m1,c1,a2,m2,c2,b2,a3,m3,c3,a4,m4,c4,rfl,h1,h2⟩:=r.fl
 have hs:=NS.le_c (by decide) hf
 exact Iv.mk (h1.rw (χ hs.1 (by decide))) (h2.rw (χ hs.2 (by decide))) _ _
theorem NS.ri_big {x:NS} (hf:x.le 2048):x.ri.big=false:=by
 have hs:=NS.le_c (by decide) hf
 unfold RI.big NS.ri
 dsimp only
 have h1:¬lg (decide (x.clo.num < 0)) x.clo.num.natAbs (if x.clo.den=1 then 0 else x.clo.den):=by rw[lg_cn];omega
 have h2:¬lg (decide (x.chi.num < 0)) x.chi.num.natAbs (if x.chi.den=1 then 0 else x.chi.den):=by rw[lg_cn];omega
 simp only[h1,h2,decide_false,Bool.or_self]
theorem NS.ri_set {x:NS} (hx:x.ok):x.ri.set=x:=by
 unfold RI.set RI.lo RI.hi NS.ri
 dsimp only
 rw[jA,jA]
 cases x with
 |e=>simp[NS.loN,NS.hiN,NS.clo,NS.chi,NS.mk',ordO,show decide ((0:Rat) < 1)=true by decide]
 |i a b=>cases a<;>cases b<;>simp[NS.loN,NS.hiN,NS.clo,NS.chi,NS.mk']<;>simp[NS.ok] at hx<;>simp[hx]<;>rfl
theorem GJ {h0 h:PH} [Le h0 h] {a:Option Addr} {l c e:Nat} (hd:N16 h0 (.slice a l c) e):Spec mach 64 #[.agg #[.bool false,.slice none 0 0,.slice a l c]] h (fun v h'=>N16 h' v (dz e)) NP:=by
 have ld:=hd.len0
 refine Spec.go [] Tryz.func64 rfl rfl (by kernel_rfl) fun C _=>?_
 try simp(maxSteps:=999999) (disch:=omega) only[go_sem,ξ,ζ]
 by_cases h0:e=0
 ·try simp(maxSteps:=999999) (disch:=omega) only[go_sem,ξ,ζ]
  refine caN (by exact bQ (n:=1) (by decide)) ?_;rintro v1 h1 s1 hv1
  try simp(maxSteps:=999999) (disch:=omega) only[go_sem,ξ,ζ]
  rw[h0];exact hv1
 ·try simp(maxSteps:=999999) (disch:=omega) only[go_sem,ξ,ζ]
  rw[my h0];exact hd.to
theorem I5 (n:Nat):cmp3 n n=0:=by unfold cmp3;simp
theorem Ey {h0 h:PH} [Le h0 h] {v w:Value} {neg:Bool} {n d:Nat} (hv:Rw h0 v neg n d) (hw:Rw h0 w neg n d):Spec mach 24 #[v,w] h (fun r _=>r=.bool true) NP:=by
 obtain⟨a,c,xs,a',c',ys,rfl,ha,ha',hn,hd,hsx,hsy⟩:=hv
 obtain⟨b,e,zs,b',e',ws,rfl,hb,hb',hm,hk,hsz,hsw⟩:=hw
 have bn:bl n≤2^37:=by have:=mo ha.lt;rw[hn] at this;omega
 have bd:bl d≤2^37:=by have:=mo ha'.lt;rw[hd] at this;omega
 have bz:=bl_dz d
 refine Spec.go [(1,.o [0,1,3,4,2,5,6,7]),(4,.o [0,1,5,6,2,3,4,7,8,9,10,11])] Tryz.func24 rfl rfl (by kernel_rfl) fun C _=>?_
 try simp(maxSteps:=999999) (disch:=omega) only[go_sem,ξ,ζ]
 refine caN (by exact jD ha rfl (by omega) hn) ?_;rintro _ h1 _ hv1;obtain⟨v1,v1_l,_,rfl,hv1⟩:=hv1.sl
 try simp(maxSteps:=999999) (disch:=omega) only[go_sem,ξ,ζ]
 refine caN (by exact jD hb rfl (by omega) hm) ?_;rintro _ h2 _ hv2;obtain⟨_,v2_l,_,rfl,hv2⟩:=hv2.sl
 try simp(maxSteps:=999999) (disch:=omega) only[go_sem,ξ,ζ]
 have l1:=hv1.len0
 have l2:=hv2.len0
 by_cases hn0:n=0
 ·obtain rfl:=l1.2 hn0
  obtain rfl:=l2.2 hn0
  try simp(maxSteps:=999999) (disch:=omega) only[go_sem,ξ,ζ]
 ·have n1:¬v1_l=0:=fun k=>hn0 (l1.1 k)
  have n2:¬v2_l=0:=fun k=>hn0 (l2.1 k)
  cases neg<;>
  ·try simp(maxSteps:=999999) (disch:=omega) only[go_sem,ξ,ζ]
   refine caN (by exact jD (ha'.to (h':=h2)) rfl (by omega) hd) ?_;rintro _ h3 _ hv3;obtain⟨_,_,_,rfl,hv3⟩:=hv3.sl
   try simp(maxSteps:=999999) (disch:=omega) only[go_sem,ξ,ζ]
   refine caN (by exact GJ hv3) ?_;rintro _ h4 _ hv4;obtain⟨_,_,_,rfl,hv4⟩:=hv4.sl
   try simp(maxSteps:=999999) (disch:=omega) only[go_sem,ξ,ζ]
   refine caN (by exact jD (hb'.to (h':=h4)) rfl (by omega) hk) ?_;rintro _ h5 _ hv5;obtain⟨_,_,_,rfl,hv5⟩:=hv5.sl
   try simp(maxSteps:=999999) (disch:=omega) only[go_sem,ξ,ζ]
   refine caN (by exact GJ hv5) ?_;rintro _ h6 _ hv6;obtain⟨_,_,_,rfl,hv6⟩:=hv6.sl
   try simp(maxSteps:=999999) (disch:=omega) only[go_sem,ξ,ζ]
   refine caN (by exact aV (hv1.to (h':=h6)) hv6 (by omega) (by omega)) ?_;rintro _ h7 _ hv7;obtain⟨_,_,_,rfl,hv7⟩:=hv7.sl
   try simp(maxSteps:=999999) (disch:=omega) only[go_sem,ξ,ζ]
   refine caN (by exact aV (hv2.to (h':=h7)) (hv4.to (h':=h7)) (by omega) (by omega)) ?_;rintro _ h8 _ hv8;obtain⟨_,_,_,rfl,hv8⟩:=hv8.sl
   try simp(maxSteps:=999999) (disch:=omega) only[go_sem,ξ,ζ]
   refine caN (by exact eI (hv7.to (h':=h8)) hv8) ?_;rintro v9 h9 s9 q9;rw[I5] at q9;subst q9
   try simp(maxSteps:=999999) (disch:=omega) only[go_sem,ξ,ζ]
end Go.Q
