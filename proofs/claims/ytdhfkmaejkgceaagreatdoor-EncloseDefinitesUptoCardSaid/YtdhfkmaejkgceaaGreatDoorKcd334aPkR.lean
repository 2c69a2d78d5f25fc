/-
  Contracts of the reference's intervals: inverses, products, quotients. Conditions: the values are intervals (Iv) and sets (Rr).
-/
import Derived.Test.YtdhfkmaejkgceaaGreatDoorK17ab04PkQ
import Derived.Test.YtdhfkmaejkgceaaGreatDoorK678323PkP
set_option linter.unusedVariables false
set_option linter.unusedSimpArgs false
open Nat renaming reduceBEq→ξ,reduceAdd→ζ
open Rat renaming div_def→qAx,mul_inv_cancel→qBf
namespace Go.Q
open Go.Proofs
set_option maxRecDepth 100000
set_option maxHeartbeats 8000000
theorem Dk (a:Option Rat): -invO (a.map (-·))=invO a:=by
 cases a with
 |none=>show -((0:Int):Rat)=((0:Int):Rat);rfl
 | some q=>
  show -(-q)⁻¹=q⁻¹
  by_cases hq:q=0
  ·subst hq;simp
  ·have h1:q*q⁻¹=1:=qBf q hq
   have h2: -q* -q⁻¹=1:=by grind
   have h3:=Rat.inv_eq_of_mul_eq_one h2
   rw[h3,Rat.neg_neg]
theorem Js (x:NS):x.minus.inv.minus=x.inv:=by
 cases x with
 |e=>rfl
 | i a b=>
  show NS.i (some (-invO (b.map (-·)))) (some (-invO (a.map (-·))))=.i (some (invO b)) (some (invO a))
  rw[Dk,Dk]
theorem Df {x:NS}:x.has ((0:Int):Rat)=x.zero:=by
 have z0:((0:Int):Rat)=0:=rfl
 rw[z0]
 have k1:∀q:Rat,(!decide ((0:Rat) < q))=decide (sgn3 q≤0):=fun q=>by unfold sgn3;by_cases h:(0:Rat) < q<;>simp[h]<;>grind
 have k2:∀q:Rat,(!decide (q < (0:Rat)))=decide (0≤sgn3 q):=fun q=>by unfold sgn3;by_cases h:q < (0:Rat)<;>simp[h]<;>grind
 cases x with
 |e=>rfl
 | i a b=>
  cases a<;>cases b<;>simp[NS.has,NS.zero,NS.void,NS.slo,NS.shi,k1,k2]<;>rfl
theorem rL {h0 h:PH} [Le h0 h] {v:Value} {a:Rat} {b:Option Rat} (hv:Rr h0 v (.i (some a) b)) (ha:0 < a) (hf:(NS.i (some a) b).le (2^30)):Spec mach 139 #[v] h (fun r h'=>Rr h' r (NS.i (some a) b).inv) NP:=by
 rw[NS.le_ends (by decide)] at hf
 obtain⟨B1,A1,M1,C1,A2,M2,C2,B2,A3,M3,C3,A4,M4,C4,rfl,t1,t2⟩:=hv.sa
 have e1:sgn3 a=1:=by unfold sgn3;grind
 have kS:=fun {h} [Le h0 h]=>bS (h:=h) t1
 dsimp only[NS.void,NS.loN,NS.hiN,NS.lo0,NS.hi0,Option.isNone_some,Option.getD_some] at*
 rw[e1] at kS
 have hi1:∀q:Rat,((1:Int):Rat) / q=q⁻¹:=fun q=>by have:((1:Int):Rat)=1:=rfl;rw[this,qAx,Rat.one_mul]
 have s1:sz ((1:Int):Rat)≤2:=by decide
 cases b with
 | none=>
  dsimp only[Option.isNone_none,Option.getD_none] at*
  refine Spec.enter (args:=[_]) (n:=33) Tryz.func139 rfl (by kernel_rfl) rfl (by simp) [.cell 2 75] rfl (fun C _=>?_)
  (repeat (first |((first |refine rg rfl rfl (fun K hK=>?_) |refine rd [.o 1,.o 2,.o 0,.o 3,.o 4,.o 5] rfl (by decide+kernel) rfl (fun K hK=>?_));(repeat (first |(refine wo rfl (fun k hk=>?_);simp(disch:=omega) only[go_sem,ξ,ζ];apply hk;clear hk k) |refine wkt rfl ?_));(try refine wk0 ?_);apply hK;clear hK K;(try dsimp only[ag,qs,qb])) |((first |refine ae ?_ |refine ac ?_);simp(disch:=decide) only[qs,qb,if_true,if_false,reduceIte]) |refine ah rfl (fun K hK=>?_) |refine ct rfl ?_ |((first |refine hK _ _ ?_ |(clear hK;refine hK _ _ ?_) |(clear hK;clear hK;refine hK _ _ ?_));clear hK;(try clear K))));((first |refine rg rfl rfl (fun K hK=>?_) |refine rd [.o 1,.o 2,.o 0,.o 3,.o 4,.o 5] rfl (by decide+kernel) rfl (fun K hK=>?_));(repeat (first |(refine wo rfl (fun k hk=>?_);simp(disch:=omega) only[go_sem,ξ,ζ];apply hk;clear hk k) |refine wkt rfl ?_ |with_reducible refine wk0 ?_ |with_reducible refine ao ?_ |with_reducible refine aj ?_ wt_no |with_reducible refine ak ?_)))
  refine cN rfl rfl rfl rfl (by exact kS) ?_;rintro v1 h1 g1 rfl;(repeat (first |(refine wo rfl (fun k hk=>?_);simp(disch:=omega) only[go_sem,ξ,ζ];apply hk;clear hk k) |refine wkt rfl ?_ |with_reducible refine wk0 ?_ |with_reducible refine ao ?_ |with_reducible refine aj ?_ wt_no |with_reducible refine ak ?_))
  ((try (simp(disch:=omega) only[go_sem,ξ,ζ]));apply hK;clear hK;(try clear K);(try dsimp only[ag,qs]));(repeat (first |((first |refine rg rfl rfl (fun K hK=>?_) |refine rd [.o 1,.o 2,.o 0,.o 3,.o 4,.o 5] rfl (by decide+kernel) rfl (fun K hK=>?_));(repeat (first |(refine wo rfl (fun k hk=>?_);simp(disch:=omega) only[go_sem,ξ,ζ];apply hk;clear hk k) |refine wkt rfl ?_));(try refine wk0 ?_);apply hK;clear hK K;(try dsimp only[ag,qs,qb])) |((first |refine ae ?_ |refine ac ?_);simp(disch:=decide) only[qs,qb,if_true,if_false,reduceIte]) |refine ah rfl (fun K hK=>?_) |refine ct rfl ?_ |((first |refine hK _ _ ?_ |(clear hK;refine hK _ _ ?_) |(clear hK;clear hK;refine hK _ _ ?_));clear hK;(try clear K))))
  (first |refine AWP_t (.seg [.o 1,.o 2] (.alt 0 (.alt 3 (.seg [.o 4] (.alt 5 (.alt 6 .done .no) .no)) (.alt 5 (.alt 3 (.seg [.o 4] (.alt 6 .done .no)) .no) .no)) (.alt 5 (.alt 0 (.alt 3 (.seg [.o 4] (.alt 6 .done .no)) .no) .no) .no))) (by decide+kernel) rfl (fun K hK=>?_) |refine mR (.seg [.o 1,.o 2] (.alt 0 (.alt 3 (.seg [.o 4] (.alt 5 (.alt 6 .done .no) .no)) (.alt 5 (.alt 3 (.seg [.o 4] (.alt 6 .done .no)) .no) .no)) (.alt 5 (.alt 0 (.alt 3 (.seg [.o 4] (.alt 6 .done .no)) .no) .no) .no))) (by decide+kernel) rfl (fun K hK=>?_))
  have rest:∀(b3:Bool) (xa:Option Addr) (xl xc:Nat) (ya:Option Addr) (yl yc:Nat) (h':PH) (S:AS) [Le h0 h'],Qr h' (.agg #[.bool b3,.slice xa xl xc,.slice ya yl yc]) (((1:Int):Rat) / a)→
    S.le ⟨[(1,.p 0 0),(2,.p 1 0),(3,.p 2 0)],[[.bool B1,.slice A1 M1 C1,.slice A2 M2 C2,.bool B2,.slice A3 M3 C3,.slice A4 M4 C4,.bool false,.bool true,.bool false],[.bool false,.slice none 0 0,.slice none 0 0,.bool false,.slice none 0 0,.slice none 0 0,.bool false,.bool false,.bool false],[.bool false,.slice none 0 0,.slice none 0 0,.bool b3,.slice xa xl xc,.slice ya yl yc,.bool false,.bool false,.bool false]]⟩→K S h':=by
   intro b3 xa xl xc ya yl yc h' S _ f3 hS
   refine hK _ _ (fq _ hS ?_);clear hK K
   repeat (first |((first |refine rg rfl rfl (fun K hK=>?_) |refine rd [.o 1,.o 2,.o 0,.o 3,.o 4,.o 5] rfl (by decide+kernel) rfl (fun K hK=>?_));(repeat (first |(refine wo rfl (fun k hk=>?_);simp(disch:=omega) only[go_sem,ξ,ζ];apply hk;clear hk k) |refine wkt rfl ?_));(try refine wk0 ?_);apply hK;clear hK K;(try dsimp only[ag,qs,qb])) |((first |refine ae ?_ |refine ac ?_);simp(disch:=decide) only[qs,qb,if_true,if_false,reduceIte]) |refine ah rfl (fun K hK=>?_) |refine ct rfl ?_ |((first |refine hK _ _ ?_ |(clear hK;refine hK _ _ ?_) |(clear hK;clear hK;refine hK _ _ ?_));clear hK;(try clear K)))
   rw[hi1] at f3
   refine ai ?_;simp(disch:=omega) only[go_sem,ξ,ζ]
   exact⟨_,_,_,_,_,_,rfl,Qr.none _,f3.to⟩
  clear hK
  (repeat (first |(refine wo rfl (fun k hk=>?_);simp(disch:=omega) only[go_sem,ξ,ζ];apply hk;clear hk k) |refine wkt rfl ?_ |with_reducible refine wk0 ?_ |with_reducible refine ao ?_ |with_reducible refine aj ?_ wt_no |with_reducible refine ak ?_))
  refine aj ?_ (aj ?_ wt_no)
  ·refine cN rfl rfl rfl rfl (by exact aF (n:=1) (by decide) (by decide)) ?_;rintro v2 h2 _ f2;obtain⟨v2_0,v2_1,v2_2,v2_3,v2_4,v2_5,v2_6,rfl,f2⟩:=f2.sa;(repeat (first |(refine wo rfl (fun k hk=>?_);simp(disch:=omega) only[go_sem,ξ,ζ];apply hk;clear hk k) |refine wkt rfl ?_ |with_reducible refine wk0 ?_ |with_reducible refine ao ?_ |with_reducible refine aj ?_ wt_no |with_reducible refine ak ?_))
   refine aj ?_ (aj ?_ wt_no)
   ·refine cN rfl rfl rfl rfl (by exact cU f2 (t1.to (h':=h2)) (by omega) (by omega)) ?_;rintro v3 h3 _ f3;obtain⟨v3_0,v3_1,v3_2,v3_3,v3_4,v3_5,v3_6,rfl,f3⟩:=f3.sa;(repeat (first |(refine wo rfl (fun k hk=>?_);simp(disch:=omega) only[go_sem,ξ,ζ];apply hk;clear hk k) |refine wkt rfl ?_ |with_reducible refine wk0 ?_ |with_reducible refine ao ?_ |with_reducible refine aj ?_ wt_no |with_reducible refine ak ?_))
    refine rest _ _ _ _ _ _ _ _ _ f3 ?_
    simp(disch:=omega) only[go_sem,ξ,ζ,true_or]
   ·(repeat (first |(refine wo rfl (fun k hk=>?_);simp(disch:=omega) only[go_sem,ξ,ζ];apply hk;clear hk k) |refine wkt rfl ?_ |with_reducible refine wk0 ?_ |with_reducible refine ao ?_ |with_reducible refine aj ?_ wt_no |with_reducible refine ak ?_))
    refine cN rfl rfl rfl rfl (by exact cU f2 (t1.to (h':=h2)) (by omega) (by omega)) ?_;rintro v3 h3 _ f3;obtain⟨v3_0,v3_1,v3_2,v3_3,v3_4,v3_5,v3_6,rfl,f3⟩:=f3.sa;(repeat (first |(refine wo rfl (fun k hk=>?_);simp(disch:=omega) only[go_sem,ξ,ζ];apply hk;clear hk k) |refine wkt rfl ?_ |with_reducible refine wk0 ?_ |with_reducible refine ao ?_ |with_reducible refine aj ?_ wt_no |with_reducible refine ak ?_))
    refine rest _ _ _ _ _ _ _ _ _ f3 ?_
    simp(disch:=omega) only[go_sem,ξ,ζ,true_or]
  ·(repeat (first |(refine wo rfl (fun k hk=>?_);simp(disch:=omega) only[go_sem,ξ,ζ];apply hk;clear hk k) |refine wkt rfl ?_ |with_reducible refine wk0 ?_ |with_reducible refine ao ?_ |with_reducible refine aj ?_ wt_no |with_reducible refine ak ?_))
   refine cN rfl rfl rfl rfl (by exact aF (n:=1) (by decide) (by decide)) ?_;rintro v2 h2 _ f2;obtain⟨v2_0,v2_1,v2_2,v2_3,v2_4,v2_5,v2_6,rfl,f2⟩:=f2.sa;(repeat (first |(refine wo rfl (fun k hk=>?_);simp(disch:=omega) only[go_sem,ξ,ζ];apply hk;clear hk k) |refine wkt rfl ?_ |with_reducible refine wk0 ?_ |with_reducible refine ao ?_ |with_reducible refine aj ?_ wt_no |with_reducible refine ak ?_))
   refine cN rfl rfl rfl rfl (by exact cU f2 (t1.to (h':=h2)) (by omega) (by omega)) ?_;rintro v3 h3 _ f3;obtain⟨v3_0,v3_1,v3_2,v3_3,v3_4,v3_5,v3_6,rfl,f3⟩:=f3.sa;(repeat (first |(refine wo rfl (fun k hk=>?_);simp(disch:=omega) only[go_sem,ξ,ζ];apply hk;clear hk k) |refine wkt rfl ?_ |with_reducible refine wk0 ?_ |with_reducible refine ao ?_ |with_reducible refine aj ?_ wt_no |with_reducible refine ak ?_))
   refine rest _ _ _ _ _ _ _ _ _ f3 ?_
   simp(disch:=omega) only[go_sem,ξ,ζ,true_or]
 | some b=>
  dsimp only[Option.isNone_some,Option.getD_some] at*
  refine Spec.enter (args:=[_]) (n:=33) Tryz.func139 rfl (by kernel_rfl) rfl (by simp) [.cell 2 75] rfl (fun C _=>?_)
  (repeat (first |((first |refine rg rfl rfl (fun K hK=>?_) |refine rd [.o 1,.o 2,.o 0,.o 3,.o 4,.o 5] rfl (by decide+kernel) rfl (fun K hK=>?_));(repeat (first |(refine wo rfl (fun k hk=>?_);simp(disch:=omega) only[go_sem,ξ,ζ];apply hk;clear hk k) |refine wkt rfl ?_));(try refine wk0 ?_);apply hK;clear hK K;(try dsimp only[ag,qs,qb])) |((first |refine ae ?_ |refine ac ?_);simp(disch:=decide) only[qs,qb,if_true,if_false,reduceIte]) |refine ah rfl (fun K hK=>?_) |refine ct rfl ?_ |((first |refine hK _ _ ?_ |(clear hK;refine hK _ _ ?_) |(clear hK;clear hK;refine hK _ _ ?_));clear hK;(try clear K))));((first |refine rg rfl rfl (fun K hK=>?_) |refine rd [.o 1,.o 2,.o 0,.o 3,.o 4,.o 5] rfl (by decide+kernel) rfl (fun K hK=>?_));(repeat (first |(refine wo rfl (fun k hk=>?_);simp(disch:=omega) only[go_sem,ξ,ζ];apply hk;clear hk k) |refine wkt rfl ?_ |with_reducible refine wk0 ?_ |with_reducible refine ao ?_ |with_reducible refine aj ?_ wt_no |with_reducible refine ak ?_)))
  refine cN rfl rfl rfl rfl (by exact kS) ?_;rintro v1 h1 g1 rfl;(repeat (first |(refine wo rfl (fun k hk=>?_);simp(disch:=omega) only[go_sem,ξ,ζ];apply hk;clear hk k) |refine wkt rfl ?_ |with_reducible refine wk0 ?_ |with_reducible refine ao ?_ |with_reducible refine aj ?_ wt_no |with_reducible refine ak ?_))
  ((try (simp(disch:=omega) only[go_sem,ξ,ζ]));apply hK;clear hK;(try clear K);(try dsimp only[ag,qs]));(repeat (first |((first |refine rg rfl rfl (fun K hK=>?_) |refine rd [.o 1,.o 2,.o 0,.o 3,.o 4,.o 5] rfl (by decide+kernel) rfl (fun K hK=>?_));(repeat (first |(refine wo rfl (fun k hk=>?_);simp(disch:=omega) only[go_sem,ξ,ζ];apply hk;clear hk k) |refine wkt rfl ?_));(try refine wk0 ?_);apply hK;clear hK K;(try dsimp only[ag,qs,qb])) |((first |refine ae ?_ |refine ac ?_);simp(disch:=decide) only[qs,qb,if_true,if_false,reduceIte]) |refine ah rfl (fun K hK=>?_) |refine ct rfl ?_ |((first |refine hK _ _ ?_ |(clear hK;refine hK _ _ ?_) |(clear hK;clear hK;refine hK _ _ ?_));clear hK;(try clear K))))
  (first |refine AWP_t (.seg [.o 1,.o 2] (.alt 0 (.alt 3 (.seg [.o 4] (.alt 5 (.alt 6 .done .no) .no)) (.alt 5 (.alt 3 (.seg [.o 4] (.alt 6 .done .no)) .no) .no)) (.alt 5 (.alt 0 (.alt 3 (.seg [.o 4] (.alt 6 .done .no)) .no) .no) .no))) (by decide+kernel) rfl (fun K hK=>?_) |refine mR (.seg [.o 1,.o 2] (.alt 0 (.alt 3 (.seg [.o 4] (.alt 5 (.alt 6 .done .no) .no)) (.alt 5 (.alt 3 (.seg [.o 4] (.alt 6 .done .no)) .no) .no)) (.alt 5 (.alt 0 (.alt 3 (.seg [.o 4] (.alt 6 .done .no)) .no) .no) .no))) (by decide+kernel) rfl (fun K hK=>?_))
  have rest:∀(b3:Bool) (xa:Option Addr) (xl xc:Nat) (ya:Option Addr) (yl yc:Nat) (h':PH) (S:AS) [Le h0 h'],Qr h' (.agg #[.bool b3,.slice xa xl xc,.slice ya yl yc]) (((1:Int):Rat) / a)→
    S.le ⟨[(1,.p 0 0),(2,.p 1 0),(3,.p 2 0)],[[.bool B1,.slice A1 M1 C1,.slice A2 M2 C2,.bool B2,.slice A3 M3 C3,.slice A4 M4 C4,.bool false,.bool false,.bool false],[.bool false,.slice none 0 0,.slice none 0 0,.bool false,.slice none 0 0,.slice none 0 0,.bool false,.bool false,.bool false],[.bool false,.slice none 0 0,.slice none 0 0,.bool b3,.slice xa xl xc,.slice ya yl yc,.bool false,.bool false,.bool false]]⟩→K S h':=by
   intro b3 xa xl xc ya yl yc h' S _ f3 hS
   refine hK _ _ (fq _ hS ?_);clear hK K
   (repeat (first |((first |refine rg rfl rfl (fun K hK=>?_) |refine rd [.o 1,.o 2,.o 0,.o 3,.o 4,.o 5] rfl (by decide+kernel) rfl (fun K hK=>?_));(repeat (first |(refine wo rfl (fun k hk=>?_);simp(disch:=omega) only[go_sem,ξ,ζ];apply hk;clear hk k) |refine wkt rfl ?_));(try refine wk0 ?_);apply hK;clear hK K;(try dsimp only[ag,qs,qb])) |((first |refine ae ?_ |refine ac ?_);simp(disch:=decide) only[qs,qb,if_true,if_false,reduceIte]) |refine ah rfl (fun K hK=>?_) |refine ct rfl ?_ |((first |refine hK _ _ ?_ |(clear hK;refine hK _ _ ?_) |(clear hK;clear hK;refine hK _ _ ?_));clear hK;(try clear K))));((first |refine rg rfl rfl (fun K hK=>?_) |refine rd [.o 1,.o 2,.o 0,.o 3,.o 4,.o 5] rfl (by decide+kernel) rfl (fun K hK=>?_));(repeat (first |(refine wo rfl (fun k hk=>?_);simp(disch:=omega) only[go_sem,ξ,ζ];apply hk;clear hk k) |refine wkt rfl ?_ |with_reducible refine wk0 ?_ |with_reducible refine ao ?_ |with_reducible refine aj ?_ wt_no |with_reducible refine ak ?_)))
   refine cN rfl rfl rfl rfl (by exact aF (n:=1) (by decide) (by decide)) ?_;rintro v4 h4 _ f4;obtain⟨v4_0,v4_1,v4_2,v4_3,v4_4,v4_5,v4_6,rfl,f4⟩:=f4.sa;(repeat (first |(refine wo rfl (fun k hk=>?_);simp(disch:=omega) only[go_sem,ξ,ζ];apply hk;clear hk k) |refine wkt rfl ?_ |with_reducible refine wk0 ?_ |with_reducible refine ao ?_ |with_reducible refine aj ?_ wt_no |with_reducible refine ak ?_))
   refine cN rfl rfl rfl rfl (by exact cU f4 (t2.to (h':=h4)) (by omega) (by omega)) ?_;rintro v5 h5 _ f5;obtain⟨v5_0,v5_1,v5_2,v5_3,v5_4,v5_5,v5_6,rfl,f5⟩:=f5.sa;(repeat (first |(refine wo rfl (fun k hk=>?_);simp(disch:=omega) only[go_sem,ξ,ζ];apply hk;clear hk k) |refine wkt rfl ?_ |with_reducible refine wk0 ?_ |with_reducible refine ao ?_ |with_reducible refine aj ?_ wt_no |with_reducible refine ak ?_))
   ((try (simp(disch:=omega) only[go_sem,ξ,ζ]));apply hK;clear hK;(try clear K);(try dsimp only[ag,qs]));(repeat (first |((first |refine rg rfl rfl (fun K hK=>?_) |refine rd [.o 1,.o 2,.o 0,.o 3,.o 4,.o 5] rfl (by decide+kernel) rfl (fun K hK=>?_));(repeat (first |(refine wo rfl (fun k hk=>?_);simp(disch:=omega) only[go_sem,ξ,ζ];apply hk;clear hk k) |refine wkt rfl ?_));(try refine wk0 ?_);apply hK;clear hK K;(try dsimp only[ag,qs,qb])) |((first |refine ae ?_ |refine ac ?_);simp(disch:=decide) only[qs,qb,if_true,if_false,reduceIte]) |refine ah rfl (fun K hK=>?_) |refine ct rfl ?_ |((first |refine hK _ _ ?_ |(clear hK;refine hK _ _ ?_) |(clear hK;clear hK;refine hK _ _ ?_));clear hK;(try clear K))))
   rw[hi1] at f3 f5
   refine ai ?_;simp(disch:=omega) only[go_sem,ξ,ζ]
   exact⟨_,_,_,_,_,_,rfl,f5.to,f3.to⟩
  clear hK
  (repeat (first |(refine wo rfl (fun k hk=>?_);simp(disch:=omega) only[go_sem,ξ,ζ];apply hk;clear hk k) |refine wkt rfl ?_ |with_reducible refine wk0 ?_ |with_reducible refine ao ?_ |with_reducible refine aj ?_ wt_no |with_reducible refine ak ?_))
  refine aj ?_ (aj ?_ wt_no)
  ·refine cN rfl rfl rfl rfl (by exact aF (n:=1) (by decide) (by decide)) ?_;rintro v2 h2 _ f2;obtain⟨v2_0,v2_1,v2_2,v2_3,v2_4,v2_5,v2_6,rfl,f2⟩:=f2.sa;(repeat (first |(refine wo rfl (fun k hk=>?_);simp(disch:=omega) only[go_sem,ξ,ζ];apply hk;clear hk k) |refine wkt rfl ?_ |with_reducible refine wk0 ?_ |with_reducible refine ao ?_ |with_reducible refine aj ?_ wt_no |with_reducible refine ak ?_))
   refine aj ?_ (aj ?_ wt_no)
   ·refine cN rfl rfl rfl rfl (by exact cU f2 (t1.to (h':=h2)) (by omega) (by omega)) ?_;rintro v3 h3 _ f3;obtain⟨v3_0,v3_1,v3_2,v3_3,v3_4,v3_5,v3_6,rfl,f3⟩:=f3.sa;(repeat (first |(refine wo rfl (fun k hk=>?_);simp(disch:=omega) only[go_sem,ξ,ζ];apply hk;clear hk k) |refine wkt rfl ?_ |with_reducible refine wk0 ?_ |with_reducible refine ao ?_ |with_reducible refine aj ?_ wt_no |with_reducible refine ak ?_))
    refine rest _ _ _ _ _ _ _ _ _ f3 ?_
    simp(disch:=omega) only[go_sem,ξ,ζ,true_or]
   ·(repeat (first |(refine wo rfl (fun k hk=>?_);simp(disch:=omega) only[go_sem,ξ,ζ];apply hk;clear hk k) |refine wkt rfl ?_ |with_reducible refine wk0 ?_ |with_reducible refine ao ?_ |with_reducible refine aj ?_ wt_no |with_reducible refine ak ?_))
    refine cN rfl rfl rfl rfl (by exact cU f2 (t1.to (h':=h2)) (by omega) (by omega)) ?_;rintro v3 h3 _ f3;obtain⟨v3_0,v3_1,v3_2,v3_3,v3_4,v3_5,v3_6,rfl,f3⟩:=f3.sa;(repeat (first |(refine wo rfl (fun k hk=>?_);simp(disch:=omega) only[go_sem,ξ,ζ];apply hk;clear hk k) |refine wkt rfl ?_ |with_reducible refine wk0 ?_ |with_reducible refine ao ?_ |with_reducible refine aj ?_ wt_no |with_reducible refine ak ?_))
    refine rest _ _ _ _ _ _ _ _ _ f3 ?_
    simp(disch:=omega) only[go_sem,ξ,ζ,true_or]
  ·(repeat (first |(refine wo rfl (fun k hk=>?_);simp(disch:=omega) only[go_sem,ξ,ζ];apply hk;clear hk k) |refine wkt rfl ?_ |with_reducible refine wk0 ?_ |with_reducible refine ao ?_ |with_reducible refine aj ?_ wt_no |with_reducible refine ak ?_))
   refine cN rfl rfl rfl rfl (by exact aF (n:=1) (by decide) (by decide)) ?_;rintro v2 h2 _ f2;obtain⟨v2_0,v2_1,v2_2,v2_3,v2_4,v2_5,v2_6,rfl,f2⟩:=f2.sa;(repeat (first |(refine wo rfl (fun k hk=>?_);simp(disch:=omega) only[go_sem,ξ,ζ];apply hk;clear hk k) |refine wkt rfl ?_ |with_reducible refine wk0 ?_ |with_reducible refine ao ?_ |with_reducible refine aj ?_ wt_no |with_reducible refine ak ?_))
   refine cN rfl rfl rfl rfl (by exact cU f2 (t1.to (h':=h2)) (by omega) (by omega)) ?_;rintro v3 h3 _ f3;obtain⟨v3_0,v3_1,v3_2,v3_3,v3_4,v3_5,v3_6,rfl,f3⟩:=f3.sa;(repeat (first |(refine wo rfl (fun k hk=>?_);simp(disch:=omega) only[go_sem,ξ,ζ];apply hk;clear hk k) |refine wkt rfl ?_ |with_reducible refine wk0 ?_ |with_reducible refine ao ?_ |with_reducible refine aj ?_ wt_no |with_reducible refine ak ?_))
   refine rest _ _ _ _ _ _ _ _ _ f3 ?_
   simp(disch:=omega) only[go_sem,ξ,ζ,true_or]
theorem zero_not {a b:Option Rat} (h:(NS.i a b).zero=false) (ho:(NS.i a b).ok):(∃p,a=some p∧0 < p)∨((a=none∨∃p,a=some p∧p < 0)∧∃q,b=some q∧q < 0):=by
 have h1:¬((NS.i a b).slo≤0∧0≤(NS.i a b).shi):=by
  intro k
  simp[NS.zero,NS.void,k.1,k.2] at h
 have sg:∀{q:Rat},¬sgn3 q≤0→0 < q:=fun {q} k=>by unfold sgn3 at k;grind
 have sg':∀{q:Rat},¬0≤sgn3 q→q < 0:=fun {q} k=>by unfold sgn3 at k;grind
 have key:∀q,b=some q→¬0≤(NS.i a b).shi→q < 0:=fun q e k=>by subst e;exact sg' k
 cases a with
 | none=>
  right
  have h2:¬0≤(NS.i none b).shi:=fun k=>h1 ⟨by show(-1:Int)≤0;decide,k⟩
  cases b with
  |none=>exact(h2 (by show(0:Int)≤1;decide)).elim
  |some q=>exact⟨.inl rfl,q,rfl,sg' h2⟩
 | some p=>
  by_cases hp:0 < p
  ·exact .inl ⟨p,rfl,hp⟩
  ·right
   have h3:sgn3 p≤0:=by unfold sgn3;grind
   have h2:¬0≤(NS.i (some p) b).shi:=fun k=>h1 ⟨h3,k⟩
   cases b with
   |none=>exact(h2 (by show(0:Int)≤1;decide)).elim
   | some q=>
    have h4:¬q < p:=by simpa[NS.ok,ordO] using ho
    have:=sg' h2
    exact⟨.inr ⟨p,rfl,by grind⟩,q,rfl,this⟩
theorem xk {h0 h:PH} [Le h0 h] {v:Value} {a b:Option Rat} (hv:Rr h0 v (.i a b)) (hz:(NS.i a b).zero=false) (ho:(NS.i a b).ok) (hf:(NS.i a b).le (2^30)):Spec mach 139 #[v] h (fun r h'=>Rr h' r (NS.i a b).inv) NP:=by
 rcases zero_not hz ho with⟨p,rfl,hp⟩ |⟨hl,q,rfl,hq⟩
 ·exact rL hv hp hf
 ·have hv0:=hv
  have kM:=fun {h} [Le h0 h]=>jq (h:=h) hv
  have hf':=hf.minus
  have e0:=Js (.i a (some q))
  have e2:(NS.i a (some q)).minus=.i (some (-q)) (a.map (-·)):=rfl
  rw[e2] at kM hf' e0
  rw[NS.le_ends (by decide)] at hf
  obtain⟨_,_,_,_,_,_,_,_,_,_,_,_,_,_,rfl,t1,t2⟩:=hv.sa
  have kS:=fun {h} [Le h0 h]=>bS (h:=h) t1
  dsimp only[NS.void,NS.loN,NS.hiN,NS.lo0,NS.hi0] at*
  rcases hl with rfl |⟨p,rfl,hp⟩
  ·dsimp only[Option.isNone_none,Option.getD_none] at*
   refine Spec.enter (args:=[_]) (n:=33) Tryz.func139 rfl (by kernel_rfl) rfl (by simp) [.cell 2 75] rfl (fun C _=>?_)
   (repeat (first |((first |refine rg rfl rfl (fun K hK=>?_) |refine rd [.o 1,.o 2,.o 0,.o 3,.o 4,.o 5] rfl (by decide+kernel) rfl (fun K hK=>?_));(repeat (first |(refine wo rfl (fun k hk=>?_);simp(disch:=omega) only[go_sem,ξ,ζ];apply hk;clear hk k) |refine wkt rfl ?_));(try refine wk0 ?_);apply hK;clear hK K;(try dsimp only[ag,qs,qb])) |((first |refine ae ?_ |refine ac ?_);simp(disch:=decide) only[qs,qb,if_true,if_false,reduceIte]) |refine ah rfl (fun K hK=>?_) |refine ct rfl ?_ |((first |refine hK _ _ ?_ |(clear hK;refine hK _ _ ?_) |(clear hK;clear hK;refine hK _ _ ?_));clear hK;(try clear K))));((first |refine rg rfl rfl (fun K hK=>?_) |refine rd [.o 1,.o 2,.o 0,.o 3,.o 4,.o 5] rfl (by decide+kernel) rfl (fun K hK=>?_));(repeat (first |(refine wo rfl (fun k hk=>?_);simp(disch:=omega) only[go_sem,ξ,ζ];apply hk;clear hk k) |refine wkt rfl ?_ |with_reducible refine wk0 ?_ |with_reducible refine ao ?_ |with_reducible refine aj ?_ wt_no |with_reducible refine ak ?_)))
   refine cN rfl rfl rfl rfl (by exact kM) ?_;rintro v1 h1 st_h1 f1;obtain⟨v1_0,v1_1,v1_2,v1_3,v1_4,v1_5,v1_6,v1_7,v1_8,v1_9,v1_10,v1_11,v1_12,v1_13,rfl,f1⟩:=f1.sa;(repeat (first |(refine wo rfl (fun k hk=>?_);simp(disch:=omega) only[go_sem,ξ,ζ];apply hk;clear hk k) |refine wkt rfl ?_ |with_reducible refine wk0 ?_ |with_reducible refine ao ?_ |with_reducible refine aj ?_ wt_no |with_reducible refine ak ?_))
   refine cN rfl rfl rfl rfl (by exact rL f1 (by grind) hf') ?_;rintro v2 h2 st_h2 f2;obtain⟨v2_0,v2_1,v2_2,v2_3,v2_4,v2_5,v2_6,v2_7,v2_8,v2_9,v2_10,v2_11,v2_12,v2_13,rfl,f2⟩:=f2.sa;(repeat (first |(refine wo rfl (fun k hk=>?_);simp(disch:=omega) only[go_sem,ξ,ζ];apply hk;clear hk k) |refine wkt rfl ?_ |with_reducible refine wk0 ?_ |with_reducible refine ao ?_ |with_reducible refine aj ?_ wt_no |with_reducible refine ak ?_))
   refine cN rfl rfl rfl rfl (by exact jq f2) ?_;rintro v3 h3 st_h3 f3;obtain⟨v3_0,v3_1,v3_2,v3_3,v3_4,v3_5,v3_6,v3_7,v3_8,v3_9,v3_10,v3_11,v3_12,v3_13,rfl,f3⟩:=f3.sa;(repeat (first |(refine wo rfl (fun k hk=>?_);simp(disch:=omega) only[go_sem,ξ,ζ];apply hk;clear hk k) |refine wkt rfl ?_ |with_reducible refine wk0 ?_ |with_reducible refine ao ?_ |with_reducible refine aj ?_ wt_no |with_reducible refine ak ?_))
   ((try (simp(disch:=omega) only[go_sem,ξ,ζ]));apply hK;clear hK;(try clear K);(try dsimp only[ag,qs]));(repeat (first |((first |refine rg rfl rfl (fun K hK=>?_) |refine rd [.o 1,.o 2,.o 0,.o 3,.o 4,.o 5] rfl (by decide+kernel) rfl (fun K hK=>?_));(repeat (first |(refine wo rfl (fun k hk=>?_);simp(disch:=omega) only[go_sem,ξ,ζ];apply hk;clear hk k) |refine wkt rfl ?_));(try refine wk0 ?_);apply hK;clear hK K;(try dsimp only[ag,qs,qb])) |((first |refine ae ?_ |refine ac ?_);simp(disch:=decide) only[qs,qb,if_true,if_false,reduceIte]) |refine ah rfl (fun K hK=>?_) |refine ct rfl ?_ |((first |refine hK _ _ ?_ |(clear hK;refine hK _ _ ?_) |(clear hK;clear hK;refine hK _ _ ?_));clear hK;(try clear K))))
   refine ai ?_;simp(disch:=omega) only[go_sem,ξ,ζ]
   rw[e0] at f3
   exact f3
  ·have e1:sgn3 p= -1:=by unfold sgn3;grind
   dsimp only[Option.isNone_some,Option.getD_some] at*
   rw[e1] at kS
   refine Spec.enter (args:=[_]) (n:=33) Tryz.func139 rfl (by kernel_rfl) rfl (by simp) [.cell 2 75] rfl (fun C _=>?_)
   (repeat (first |((first |refine rg rfl rfl (fun K hK=>?_) |refine rd [.o 1,.o 2,.o 0,.o 3,.o 4,.o 5] rfl (by decide+kernel) rfl (fun K hK=>?_));(repeat (first |(refine wo rfl (fun k hk=>?_);simp(disch:=omega) only[go_sem,ξ,ζ];apply hk;clear hk k) |refine wkt rfl ?_));(try refine wk0 ?_);apply hK;clear hK K;(try dsimp only[ag,qs,qb])) |((first |refine ae ?_ |refine ac ?_);simp(disch:=decide) only[qs,qb,if_true,if_false,reduceIte]) |refine ah rfl (fun K hK=>?_) |refine ct rfl ?_ |((first |refine hK _ _ ?_ |(clear hK;refine hK _ _ ?_) |(clear hK;clear hK;refine hK _ _ ?_));clear hK;(try clear K))));((first |refine rg rfl rfl (fun K hK=>?_) |refine rd [.o 1,.o 2,.o 0,.o 3,.o 4,.o 5] rfl (by decide+kernel) rfl (fun K hK=>?_));(repeat (first |(refine wo rfl (fun k hk=>?_);simp(disch:=omega) only[go_sem,ξ,ζ];apply hk;clear hk k) |refine wkt rfl ?_ |with_reducible refine wk0 ?_ |with_reducible refine ao ?_ |with_reducible refine aj ?_ wt_no |with_reducible refine ak ?_)))
   refine cN rfl rfl rfl rfl (by exact kS) ?_;rintro v9 h9 g9 rfl;(repeat (first |(refine wo rfl (fun k hk=>?_);simp(disch:=omega) only[go_sem,ξ,ζ];apply hk;clear hk k) |refine wkt rfl ?_ |with_reducible refine wk0 ?_ |with_reducible refine ao ?_ |with_reducible refine aj ?_ wt_no |with_reducible refine ak ?_))
   ((try (simp(disch:=omega) only[go_sem,ξ,ζ]));apply hK;clear hK;(try clear K);(try dsimp only[ag,qs]));(repeat (first |((first |refine rg rfl rfl (fun K hK=>?_) |refine rd [.o 1,.o 2,.o 0,.o 3,.o 4,.o 5] rfl (by decide+kernel) rfl (fun K hK=>?_));(repeat (first |(refine wo rfl (fun k hk=>?_);simp(disch:=omega) only[go_sem,ξ,ζ];apply hk;clear hk k) |refine wkt rfl ?_));(try refine wk0 ?_);apply hK;clear hK K;(try dsimp only[ag,qs,qb])) |((first |refine ae ?_ |refine ac ?_);simp(disch:=decide) only[qs,qb,if_true,if_false,reduceIte]) |refine ah rfl (fun K hK=>?_) |refine ct rfl ?_ |((first |refine hK _ _ ?_ |(clear hK;refine hK _ _ ?_) |(clear hK;clear hK;refine hK _ _ ?_));clear hK;(try clear K))));((first |refine rg rfl rfl (fun K hK=>?_) |refine rd [.o 1,.o 2,.o 0,.o 3,.o 4,.o 5] rfl (by decide+kernel) rfl (fun K hK=>?_));(repeat (first |(refine wo rfl (fun k hk=>?_);simp(disch:=omega) only[go_sem,ξ,ζ];apply hk;clear hk k) |refine wkt rfl ?_ |with_reducible refine wk0 ?_ |with_reducible refine ao ?_ |with_reducible refine aj ?_ wt_no |with_reducible refine ak ?_)))
   refine cN rfl rfl rfl rfl (by exact kM) ?_;rintro v1 h1 st_h1 f1;obtain⟨v1_0,v1_1,v1_2,v1_3,v1_4,v1_5,v1_6,v1_7,v1_8,v1_9,v1_10,v1_11,v1_12,v1_13,rfl,f1⟩:=f1.sa;(repeat (first |(refine wo rfl (fun k hk=>?_);simp(disch:=omega) only[go_sem,ξ,ζ];apply hk;clear hk k) |refine wkt rfl ?_ |with_reducible refine wk0 ?_ |with_reducible refine ao ?_ |with_reducible refine aj ?_ wt_no |with_reducible refine ak ?_))
   refine cN rfl rfl rfl rfl (by exact rL f1 (by grind) hf') ?_;rintro v2 h2 st_h2 f2;obtain⟨v2_0,v2_1,v2_2,v2_3,v2_4,v2_5,v2_6,v2_7,v2_8,v2_9,v2_10,v2_11,v2_12,v2_13,rfl,f2⟩:=f2.sa;(repeat (first |(refine wo rfl (fun k hk=>?_);simp(disch:=omega) only[go_sem,ξ,ζ];apply hk;clear hk k) |refine wkt rfl ?_ |with_reducible refine wk0 ?_ |with_reducible refine ao ?_ |with_reducible refine aj ?_ wt_no |with_reducible refine ak ?_))
   refine cN rfl rfl rfl rfl (by exact jq f2) ?_;rintro v3 h3 st_h3 f3;obtain⟨v3_0,v3_1,v3_2,v3_3,v3_4,v3_5,v3_6,v3_7,v3_8,v3_9,v3_10,v3_11,v3_12,v3_13,rfl,f3⟩:=f3.sa;(repeat (first |(refine wo rfl (fun k hk=>?_);simp(disch:=omega) only[go_sem,ξ,ζ];apply hk;clear hk k) |refine wkt rfl ?_ |with_reducible refine wk0 ?_ |with_reducible refine ao ?_ |with_reducible refine aj ?_ wt_no |with_reducible refine ak ?_))
   ((try (simp(disch:=omega) only[go_sem,ξ,ζ]));apply hK;clear hK;(try clear K);(try dsimp only[ag,qs]));(repeat (first |((first |refine rg rfl rfl (fun K hK=>?_) |refine rd [.o 1,.o 2,.o 0,.o 3,.o 4,.o 5] rfl (by decide+kernel) rfl (fun K hK=>?_));(repeat (first |(refine wo rfl (fun k hk=>?_);simp(disch:=omega) only[go_sem,ξ,ζ];apply hk;clear hk k) |refine wkt rfl ?_));(try refine wk0 ?_);apply hK;clear hK K;(try dsimp only[ag,qs,qb])) |((first |refine ae ?_ |refine ac ?_);simp(disch:=decide) only[qs,qb,if_true,if_false,reduceIte]) |refine ah rfl (fun K hK=>?_) |refine ct rfl ?_ |((first |refine hK _ _ ?_ |(clear hK;refine hK _ _ ?_) |(clear hK;clear hK;refine hK _ _ ?_));clear hK;(try clear K))))
   refine ai ?_;simp(disch:=omega) only[go_sem,ξ,ζ]
   rw[e0] at f3
   exact f3
theorem JJ {x y:NS} (h:x.void=true∨y.void=true):x.prod y=.e:=by
 cases x with
 |e=>cases y<;>rfl
 | i a b=>
  cases y with
  |e=>rfl
  |i c d=>rcases h with h |h<;>cases h
theorem RefMul {h0 h:PH} [Le h0 h] {v w:Value} {x y:RI} {p:Int} (hv:Iv h0 v x) (hw:Iv h0 w y):Spec mach 85 #[v,w,.int .i64 p] h (fun r h'=>Ir h' r (x.fin2 y (rnd p x.set y.set (.ok (x.set.prod y.set))))) NP:=by
 have hv0:=hv
 have hw0:=hw
 rw[FN JJ]
 obtain⟨a1,m1,c1,a2,m2,c2,a3,m3,c3,a4,m4,c4,rfl,_,_⟩:=hv.sa
 obtain⟨a1',m1',c1',a2',m2',c2',a3',m3',c3',a4',m4',c4',rfl,_,_⟩:=hw.sa
 unfold RI.fin2 Out.prec
 cases g:x.big || y.big with
 | true=>
  refine Spec.enter (args:=[_,_,_]) (n:=31) Tryz.func85 rfl (by kernel_rfl) rfl (by simp) [.cell 6 41,.tmp 7] rfl (fun C _=>?_)
  repeat (first |(refine wo rfl (fun k hk=>?_);simp(disch:=omega) only[go_sem,ξ,ζ];apply hk;clear hk k) |refine wkt rfl ?_ |refine wk0 ?_ |refine rg rfl rfl (fun K hK=>?_) |((first |refine ae ?_ |refine ac ?_);simp(disch:=decide) only[qs,qb,if_true,if_false,reduceIte]) |refine ah rfl (fun K hK=>?_) |refine ct rfl ?_ |((try simp(disch:=omega) only[go_sem,ξ,ζ]);(first |apply hK |(clear hK;apply hK) |(clear hK;clear hK;apply hK));clear hK;(try clear K);(try dsimp only[ag,qs,qb])))
  refine cN rfl rfl rfl rfl (by exact gm hv0 hw0 g) ?_;rintro v1 h1 s1 q1;unfold zRI at q1;subst q1
  repeat (first |(refine wo rfl (fun k hk=>?_);simp(disch:=omega) only[go_sem,ξ,ζ];apply hk;clear hk k) |refine wkt rfl ?_ |refine wk0 ?_ |refine rg rfl rfl (fun K hK=>?_) |((first |refine ae ?_ |refine ac ?_);simp(disch:=decide) only[qs,qb,if_true,if_false,reduceIte]) |refine ah rfl (fun K hK=>?_) |refine ct rfl ?_ |((try simp(disch:=omega) only[go_sem,ξ,ζ]);(first |apply hK |(clear hK;apply hK) |(clear hK;clear hK;apply hK));clear hK;(try clear K);(try dsimp only[ag,qs,qb])))
  refine ai ?_;simp(disch:=omega) only[go_sem,ξ,ζ]
  all_goals rfl
 | false=>
  obtain⟨g1,g2⟩:=Bool.or_eq_false_iff.1 g
  cases gp:bad p with
  | true=>
   refine Spec.enter (args:=[_,_,_]) (n:=31) Tryz.func85 rfl (by kernel_rfl) rfl (by simp) [.cell 6 41,.tmp 7] rfl (fun C _=>?_)
   repeat (first |(refine wo rfl (fun k hk=>?_);simp(disch:=omega) only[go_sem,ξ,ζ];apply hk;clear hk k) |refine wkt rfl ?_ |refine wk0 ?_ |refine rg rfl rfl (fun K hK=>?_) |((first |refine ae ?_ |refine ac ?_);simp(disch:=decide) only[qs,qb,if_true,if_false,reduceIte]) |refine ah rfl (fun K hK=>?_) |refine ct rfl ?_ |((try simp(disch:=omega) only[go_sem,ξ,ζ]);(first |apply hK |(clear hK;apply hK) |(clear hK;clear hK;apply hK));clear hK;(try clear K);(try dsimp only[ag,qs,qb])))
   refine cN rfl rfl rfl rfl (by exact pb hv0 hw0 g1 g2 gp) ?_;rintro v1 h1 s1 q1;unfold zRI at q1;subst q1
   repeat (first |(refine wo rfl (fun k hk=>?_);simp(disch:=omega) only[go_sem,ξ,ζ];apply hk;clear hk k) |refine wkt rfl ?_ |refine wk0 ?_ |refine rg rfl rfl (fun K hK=>?_) |((first |refine ae ?_ |refine ac ?_);simp(disch:=decide) only[qs,qb,if_true,if_false,reduceIte]) |refine ah rfl (fun K hK=>?_) |refine ct rfl ?_ |((try simp(disch:=omega) only[go_sem,ξ,ζ]);(first |apply hK |(clear hK;apply hK) |(clear hK;clear hK;apply hK));clear hK;(try clear K);(try dsimp only[ag,qs,qb])))
   refine ai ?_;simp(disch:=omega) only[go_sem,ξ,ζ]
   all_goals rfl
  | false=>
   simp only[cond_false]
   refine Spec.enter (args:=[_,_,_]) (n:=31) Tryz.func85 rfl (by kernel_rfl) rfl (by simp) [.cell 6 41,.tmp 7] rfl (fun C _=>?_)
   repeat (first |(refine wo rfl (fun k hk=>?_);simp(disch:=omega) only[go_sem,ξ,ζ];apply hk;clear hk k) |refine wkt rfl ?_ |refine wk0 ?_ |refine rg rfl rfl (fun K hK=>?_) |((first |refine ae ?_ |refine ac ?_);simp(disch:=decide) only[qs,qb,if_true,if_false,reduceIte]) |refine ah rfl (fun K hK=>?_) |refine ct rfl ?_ |((try simp(disch:=omega) only[go_sem,ξ,ζ]);(first |apply hK |(clear hK;apply hK) |(clear hK;clear hK;apply hK));clear hK;(try clear K);(try dsimp only[ag,qs,qb])))
   refine cN rfl rfl rfl rfl (by exact iJ hv0 hw0 g1 g2 gp) ?_;rintro v1 h1 s1 q1;obtain⟨_,_,rfl,q2,q3⟩:=q1;have q2':=q2;have q3':=q3;obtain⟨_,_,_,_,_,_,_,_,_,_,_,_,_,_,rfl,_,_⟩:=q2.sa;obtain⟨_,_,_,_,_,_,_,_,_,_,_,_,_,_,rfl,_,_⟩:=q3.sa
   repeat (first |(refine wo rfl (fun k hk=>?_);simp(disch:=omega) only[go_sem,ξ,ζ];apply hk;clear hk k) |refine wkt rfl ?_ |refine wk0 ?_ |refine rg rfl rfl (fun K hK=>?_) |((first |refine ae ?_ |refine ac ?_);simp(disch:=decide) only[qs,qb,if_true,if_false,reduceIte]) |refine ah rfl (fun K hK=>?_) |refine ct rfl ?_ |((try simp(disch:=omega) only[go_sem,ξ,ζ]);(first |apply hK |(clear hK;apply hK) |(clear hK;clear hK;apply hK));clear hK;(try clear K);(try dsimp only[ag,qs,qb])))
   refine cN rfl rfl rfl rfl (by exact CN q2' q3' (RI.le g1) (RI.le g2)) ?_;rintro v2 h2 st_h2 f2;obtain⟨v2_0,v2_1,v2_2,v2_3,v2_4,v2_5,v2_6,v2_7,v2_8,v2_9,v2_10,v2_11,v2_12,v2_13,rfl,f2⟩:=f2.sa;(repeat (first |(refine wo rfl (fun k hk=>?_);simp(disch:=omega) only[go_sem,ξ,ζ];apply hk;clear hk k) |refine wkt rfl ?_));(try refine wk0 ?_)
   refine cN rfl rfl rfl rfl (by exact jb f2 ((fK (RI.le g1) (RI.le g2)).2.up (by decide)) (jt gp)) ?_;rintro v3 h3 st_h3 f3;obtain⟨v3_0,v3_1,v3_2,v3_3,v3_4,v3_5,v3_6,v3_7,v3_8,v3_9,v3_10,v3_11,v3_12,v3_13,rfl,f3⟩:=f3.sa;(repeat (first |(refine wo rfl (fun k hk=>?_);simp(disch:=omega) only[go_sem,ξ,ζ];apply hk;clear hk k) |refine wkt rfl ?_));(try refine wk0 ?_)
   refine cN rfl rfl rfl rfl (by exact iI f3) ?_;rintro r4 h4 st_h4 hr4;obtain⟨r4_0,r4_1,r4_2,r4_3,r4_4,r4_5,r4_6,r4_7,r4_8,r4_9,r4_10,r4_11,r4_12,r4_13,r4_14,r4_15,r4_16,rfl,hr4⟩:=hr4.sa
   repeat (first |(refine wo rfl (fun k hk=>?_);simp(disch:=omega) only[go_sem,ξ,ζ];apply hk;clear hk k) |refine wkt rfl ?_ |refine wk0 ?_ |refine rg rfl rfl (fun K hK=>?_) |((first |refine ae ?_ |refine ac ?_);simp(disch:=decide) only[qs,qb,if_true,if_false,reduceIte]) |refine ah rfl (fun K hK=>?_) |refine ct rfl ?_ |((try simp(disch:=omega) only[go_sem,ξ,ζ]);(first |apply hK |(clear hK;apply hK) |(clear hK;clear hK;apply hK));clear hK;(try clear K);(try dsimp only[ag,qs,qb])))
   refine ai ?_;simp(disch:=omega) only[go_sem,ξ,ζ]
   exact hr4
theorem div_void {x y:NS} {p:Int} (h:(x.void || y.void)=true) (gp:bad p=false):Out.fin (rnd p x y (divO x y))=.ok .e:=by
 unfold rnd Out.prec
 rw[gp,h];rfl
theorem RefDiv {h0 h:PH} [Le h0 h] {v w:Value} {x y:RI} {p:Int} (hv:Iv h0 v x) (hw:Iv h0 w y):Spec mach 86 #[v,w,.int .i64 p] h (fun r h'=>Ir h' r (x.fin2 y (rnd p x.set y.set (divO x.set y.set)))) NP:=by
 have hv0:=hv
 have hw0:=hw
 obtain⟨a1,m1,c1,a2,m2,c2,a3,m3,c3,a4,m4,c4,rfl,_,_⟩:=hv.sa
 obtain⟨a1',m1',c1',a2',m2',c2',a3',m3',c3',a4',m4',c4',rfl,_,_⟩:=hw.sa
 unfold RI.fin2
 cases g:x.big || y.big with
 | true=>
  refine Spec.enter (args:=[_,_,_]) (n:=44) Tryz.func86 rfl (by kernel_rfl) rfl (by simp) [.cell 6 41,.tmp 7] rfl (fun C _=>?_)
  repeat (first |(refine wo rfl (fun k hk=>?_);simp(disch:=omega) only[go_sem,ξ,ζ];apply hk;clear hk k) |refine wkt rfl ?_ |refine wk0 ?_ |refine rg rfl rfl (fun K hK=>?_) |refine rd [.o 0,.o 1,.o 2] rfl (by decide+kernel) rfl (fun K hK=>?_) |refine rd [.o 0,.o 1,.o 4,.o 2,.o 3,.o 5,.o 6,.o 7,.o 8,.o 9,.o 10] rfl (by decide+kernel) rfl (fun K hK=>?_) |((first |refine ae ?_ |refine ac ?_);simp(disch:=decide) only[qs,qb,if_true,if_false,reduceIte]) |refine ah rfl (fun K hK=>?_) |refine ct rfl ?_ |((try simp(disch:=omega) only[go_sem,ξ,ζ]);(first |apply hK |(clear hK;apply hK) |(clear hK;clear hK;apply hK));clear hK;(try clear K);(try dsimp only[ag,qs,qb])))
  refine cN rfl rfl rfl rfl (by exact gm hv0 hw0 g) ?_;rintro v1 h1 s1 q1;unfold zRI at q1;subst q1
  repeat (first |(refine wo rfl (fun k hk=>?_);simp(disch:=omega) only[go_sem,ξ,ζ];apply hk;clear hk k) |refine wkt rfl ?_ |refine wk0 ?_ |refine rg rfl rfl (fun K hK=>?_) |refine rd [.o 0,.o 1,.o 2] rfl (by decide+kernel) rfl (fun K hK=>?_) |refine rd [.o 0,.o 1,.o 4,.o 2,.o 3,.o 5,.o 6,.o 7,.o 8,.o 9,.o 10] rfl (by decide+kernel) rfl (fun K hK=>?_) |((first |refine ae ?_ |refine ac ?_);simp(disch:=decide) only[qs,qb,if_true,if_false,reduceIte]) |refine ah rfl (fun K hK=>?_) |refine ct rfl ?_ |((try simp(disch:=omega) only[go_sem,ξ,ζ]);(first |apply hK |(clear hK;apply hK) |(clear hK;clear hK;apply hK));clear hK;(try clear K);(try dsimp only[ag,qs,qb])))
  refine ai ?_;simp(disch:=omega) only[go_sem,ξ,ζ]
  all_goals rfl
 | false =>
  obtain⟨g1,g2⟩:=Bool.or_eq_false_iff.1 g
  cases gp:bad p with
  | true=>
   have e0:rnd p x.set y.set (divO x.set y.set)=.error 2:=by unfold rnd Out.prec;rw[gp];rfl
   rw[e0]
   refine Spec.enter (args:=[_,_,_]) (n:=44) Tryz.func86 rfl (by kernel_rfl) rfl (by simp) [.cell 6 41,.tmp 7] rfl (fun C _=>?_)
   repeat (first |(refine wo rfl (fun k hk=>?_);simp(disch:=omega) only[go_sem,ξ,ζ];apply hk;clear hk k) |refine wkt rfl ?_ |refine wk0 ?_ |refine rg rfl rfl (fun K hK=>?_) |refine rd [.o 0,.o 1,.o 2] rfl (by decide+kernel) rfl (fun K hK=>?_) |refine rd [.o 0,.o 1,.o 4,.o 2,.o 3,.o 5,.o 6,.o 7,.o 8,.o 9,.o 10] rfl (by decide+kernel) rfl (fun K hK=>?_) |((first |refine ae ?_ |refine ac ?_);simp(disch:=decide) only[qs,qb,if_true,if_false,reduceIte]) |refine ah rfl (fun K hK=>?_) |refine ct rfl ?_ |((try simp(disch:=omega) only[go_sem,ξ,ζ]);(first |apply hK |(clear hK;apply hK) |(clear hK;clear hK;apply hK));clear hK;(try clear K);(try dsimp only[ag,qs,qb])))
   refine cN rfl rfl rfl rfl (by exact pb hv0 hw0 g1 g2 gp) ?_;rintro v1 h1 s1 q1;unfold zRI at q1;subst q1
   repeat (first |(refine wo rfl (fun k hk=>?_);simp(disch:=omega) only[go_sem,ξ,ζ];apply hk;clear hk k) |refine wkt rfl ?_ |refine wk0 ?_ |refine rg rfl rfl (fun K hK=>?_) |refine rd [.o 0,.o 1,.o 2] rfl (by decide+kernel) rfl (fun K hK=>?_) |refine rd [.o 0,.o 1,.o 4,.o 2,.o 3,.o 5,.o 6,.o 7,.o 8,.o 9,.o 10] rfl (by decide+kernel) rfl (fun K hK=>?_) |((first |refine ae ?_ |refine ac ?_);simp(disch:=decide) only[qs,qb,if_true,if_false,reduceIte]) |refine ah rfl (fun K hK=>?_) |refine ct rfl ?_ |((try simp(disch:=omega) only[go_sem,ξ,ζ]);(first |apply hK |(clear hK;apply hK) |(clear hK;clear hK;apply hK));clear hK;(try clear K);(try dsimp only[ag,qs,qb])))
   refine ai ?_;simp(disch:=omega) only[go_sem,ξ,ζ]
   all_goals rfl
  | false =>
   simp only[cond_false]
   have kT:=fun {h} [Le h0 h]=>iJ (h:=h) hv0 hw0 g1 g2 gp
   have l1:=RI.le g1
   have l2:=RI.le g2
   have o2:=RI.set_ok y
   generalize x.set=s at*
   generalize y.set=t at*
   by_cases gv:(s.void || t.void)=true
   ·rw[div_void gv gp]
    have le:NS.le (2^36) .e:=rfl
    cases hs:s.void with
    | true=>
     refine Spec.enter (args:=[_,_,_]) (n:=44) Tryz.func86 rfl (by kernel_rfl) rfl (by simp) [.cell 6 41,.tmp 7] rfl (fun C _=>?_)
     repeat (first |(refine wo rfl (fun k hk=>?_);simp(disch:=omega) only[go_sem,ξ,ζ];apply hk;clear hk k) |refine wkt rfl ?_ |refine wk0 ?_ |refine rg rfl rfl (fun K hK=>?_) |refine rd [.o 0,.o 1,.o 2] rfl (by decide+kernel) rfl (fun K hK=>?_) |refine rd [.o 0,.o 1,.o 4,.o 2,.o 3,.o 5,.o 6,.o 7,.o 8,.o 9,.o 10] rfl (by decide+kernel) rfl (fun K hK=>?_) |((first |refine ae ?_ |refine ac ?_);simp(disch:=decide) only[qs,qb,if_true,if_false,reduceIte]) |refine ah rfl (fun K hK=>?_) |refine ct rfl ?_ |((try simp(disch:=omega) only[go_sem,ξ,ζ]);(first |apply hK |(clear hK;apply hK) |(clear hK;clear hK;apply hK));clear hK;(try clear K);(try dsimp only[ag,qs,qb])))
     refine cN rfl rfl rfl rfl (by exact kT) ?_;rintro v1 h1 s1 q1;obtain⟨_,_,rfl,q2,q3⟩:=q1;have q2':=q2;have q3':=q3;obtain⟨_,_,_,_,_,_,_,_,_,_,_,_,_,_,rfl,_,_⟩:=q2.sa;obtain⟨_,_,_,_,_,_,_,_,_,_,_,_,_,_,rfl,_,_⟩:=q3.sa
     repeat (first |(refine wo rfl (fun k hk=>?_);simp(disch:=omega) only[go_sem,ξ,ζ,hs];apply hk;clear hk k) |refine wkt rfl ?_ |refine wk0 ?_ |refine rg rfl rfl (fun K hK=>?_) |refine rd [.o 0,.o 1,.o 2] rfl (by decide+kernel) rfl (fun K hK=>?_) |refine rd [.o 0,.o 1,.o 4,.o 2,.o 3,.o 5,.o 6,.o 7,.o 8,.o 9,.o 10] rfl (by decide+kernel) rfl (fun K hK=>?_) |((first |refine ae ?_ |refine ac ?_);simp(disch:=decide) only[qs,qb,if_true,if_false,reduceIte]) |refine ah rfl (fun K hK=>?_) |refine ct rfl ?_ |((try simp(disch:=omega) only[go_sem,ξ,ζ]);(first |apply hK |(clear hK;apply hK) |(clear hK;clear hK;apply hK));clear hK;(try clear K);(try dsimp only[ag,qs,qb])))
     refine cN rfl rfl rfl rfl (by exact i6) ?_;rintro v2 h2 st_h2 f2;obtain⟨v2_0,v2_1,v2_2,v2_3,v2_4,v2_5,v2_6,v2_7,v2_8,v2_9,v2_10,v2_11,v2_12,v2_13,rfl,f2⟩:=f2.sa;(repeat (first |(refine wo rfl (fun k hk=>?_);simp(disch:=omega) only[go_sem,ξ,ζ];apply hk;clear hk k) |refine wkt rfl ?_));(try refine wk0 ?_)
     refine cN rfl rfl rfl rfl (by exact jp f2 le) ?_;rintro v3 h3 st_h3 f3;obtain⟨v3_0,v3_1,v3_2,v3_3,v3_4,v3_5,v3_6,v3_7,v3_8,v3_9,v3_10,v3_11,v3_12,v3_13,v3_14,v3_15,rfl,f3⟩:=f3.sa
     repeat (first |(refine wo rfl (fun k hk=>?_);simp(disch:=omega) only[go_sem,ξ,ζ];apply hk;clear hk k) |refine wkt rfl ?_ |refine wk0 ?_ |refine rg rfl rfl (fun K hK=>?_) |refine rd [.o 0,.o 1,.o 2] rfl (by decide+kernel) rfl (fun K hK=>?_) |refine rd [.o 0,.o 1,.o 4,.o 2,.o 3,.o 5,.o 6,.o 7,.o 8,.o 9,.o 10] rfl (by decide+kernel) rfl (fun K hK=>?_) |((first |refine ae ?_ |refine ac ?_);simp(disch:=decide) only[qs,qb,if_true,if_false,reduceIte]) |refine ah rfl (fun K hK=>?_) |refine ct rfl ?_ |((try simp(disch:=omega) only[go_sem,ξ,ζ]);(first |apply hK |(clear hK;apply hK) |(clear hK;clear hK;apply hK));clear hK;(try clear K);(try dsimp only[ag,qs,qb])))
     refine ai ?_;simp(disch:=omega) only[go_sem,ξ,ζ]
     exact⟨_,rfl,f3⟩
    | false=>
     have ht:t.void=true:=by rw[hs] at gv;exact gv
     refine Spec.enter (args:=[_,_,_]) (n:=44) Tryz.func86 rfl (by kernel_rfl) rfl (by simp) [.cell 6 41,.tmp 7] rfl (fun C _=>?_)
     repeat (first |(refine wo rfl (fun k hk=>?_);simp(disch:=omega) only[go_sem,ξ,ζ];apply hk;clear hk k) |refine wkt rfl ?_ |refine wk0 ?_ |refine rg rfl rfl (fun K hK=>?_) |refine rd [.o 0,.o 1,.o 2] rfl (by decide+kernel) rfl (fun K hK=>?_) |refine rd [.o 0,.o 1,.o 4,.o 2,.o 3,.o 5,.o 6,.o 7,.o 8,.o 9,.o 10] rfl (by decide+kernel) rfl (fun K hK=>?_) |((first |refine ae ?_ |refine ac ?_);simp(disch:=decide) only[qs,qb,if_true,if_false,reduceIte]) |refine ah rfl (fun K hK=>?_) |refine ct rfl ?_ |((try simp(disch:=omega) only[go_sem,ξ,ζ]);(first |apply hK |(clear hK;apply hK) |(clear hK;clear hK;apply hK));clear hK;(try clear K);(try dsimp only[ag,qs,qb])))
     refine cN rfl rfl rfl rfl (by exact kT) ?_;rintro v1 h1 s1 q1;obtain⟨_,_,rfl,q2,q3⟩:=q1;have q2':=q2;have q3':=q3;obtain⟨_,_,_,_,_,_,_,_,_,_,_,_,_,_,rfl,_,_⟩:=q2.sa;obtain⟨_,_,_,_,_,_,_,_,_,_,_,_,_,_,rfl,_,_⟩:=q3.sa
     repeat (first |(refine wo rfl (fun k hk=>?_);simp(disch:=omega) only[go_sem,ξ,ζ,hs,ht];apply hk;clear hk k) |refine wkt rfl ?_ |refine wk0 ?_ |refine rg rfl rfl (fun K hK=>?_) |refine rd [.o 0,.o 1,.o 2] rfl (by decide+kernel) rfl (fun K hK=>?_) |refine rd [.o 0,.o 1,.o 4,.o 2,.o 3,.o 5,.o 6,.o 7,.o 8,.o 9,.o 10] rfl (by decide+kernel) rfl (fun K hK=>?_) |((first |refine ae ?_ |refine ac ?_);simp(disch:=decide) only[qs,qb,if_true,if_false,reduceIte]) |refine ah rfl (fun K hK=>?_) |refine ct rfl ?_ |((try simp(disch:=omega) only[go_sem,ξ,ζ]);(first |apply hK |(clear hK;apply hK) |(clear hK;clear hK;apply hK));clear hK;(try clear K);(try dsimp only[ag,qs,qb])))
     refine cN rfl rfl rfl rfl (by exact i6) ?_;rintro v2 h2 st_h2 f2;obtain⟨v2_0,v2_1,v2_2,v2_3,v2_4,v2_5,v2_6,v2_7,v2_8,v2_9,v2_10,v2_11,v2_12,v2_13,rfl,f2⟩:=f2.sa;(repeat (first |(refine wo rfl (fun k hk=>?_);simp(disch:=omega) only[go_sem,ξ,ζ];apply hk;clear hk k) |refine wkt rfl ?_));(try refine wk0 ?_)
     refine cN rfl rfl rfl rfl (by exact jp f2 le) ?_;rintro v3 h3 st_h3 f3;obtain⟨v3_0,v3_1,v3_2,v3_3,v3_4,v3_5,v3_6,v3_7,v3_8,v3_9,v3_10,v3_11,v3_12,v3_13,v3_14,v3_15,rfl,f3⟩:=f3.sa
     repeat (first |(refine wo rfl (fun k hk=>?_);simp(disch:=omega) only[go_sem,ξ,ζ];apply hk;clear hk k) |refine wkt rfl ?_ |refine wk0 ?_ |refine rg rfl rfl (fun K hK=>?_) |refine rd [.o 0,.o 1,.o 2] rfl (by decide+kernel) rfl (fun K hK=>?_) |refine rd [.o 0,.o 1,.o 4,.o 2,.o 3,.o 5,.o 6,.o 7,.o 8,.o 9,.o 10] rfl (by decide+kernel) rfl (fun K hK=>?_) |((first |refine ae ?_ |refine ac ?_);simp(disch:=decide) only[qs,qb,if_true,if_false,reduceIte]) |refine ah rfl (fun K hK=>?_) |refine ct rfl ?_ |((try simp(disch:=omega) only[go_sem,ξ,ζ]);(first |apply hK |(clear hK;apply hK) |(clear hK;clear hK;apply hK));clear hK;(try clear K);(try dsimp only[ag,qs,qb])))
     refine ai ?_;simp(disch:=omega) only[go_sem,ξ,ζ]
     exact⟨_,rfl,f3⟩
   ·obtain⟨hs,ht⟩:=Bool.or_eq_false_iff.1 (Bool.eq_false_iff.2 gv)
    have ern:rnd p s t (divO s t)=match divO s t with |.error e=>.error e |.ok z=>.ok (z.hull p.toNat):=by
     unfold rnd Out.prec
     rw[gp,hs,ht];rfl
    rw[ern]
    unfold divO
    have kI:=fun {h1 h:PH} [Le h1 h] {v w:Value} (k:Rr h1 v t) (j:Qr h1 w ((0:Int):Rat))=>RefIn (h:=h) k j (l2.up (by decide)) (by decide)
    rw[Df] at kI
    cases hz:t.zero with
    | true=>
     rw[hz] at kI
     show Spec _ _ _ _ (fun r h'=>Ir h' r (.error 10)) _
     refine Spec.enter (args:=[_,_,_]) (n:=44) Tryz.func86 rfl (by kernel_rfl) rfl (by simp) [.cell 6 41,.tmp 7] rfl (fun C _=>?_)
     repeat (first |(refine wo rfl (fun k hk=>?_);simp(disch:=omega) only[go_sem,ξ,ζ];apply hk;clear hk k) |refine wkt rfl ?_ |refine wk0 ?_ |refine rg rfl rfl (fun K hK=>?_) |refine rd [.o 0,.o 1,.o 2] rfl (by decide+kernel) rfl (fun K hK=>?_) |refine rd [.o 0,.o 1,.o 4,.o 2,.o 3,.o 5,.o 6,.o 7,.o 8,.o 9,.o 10] rfl (by decide+kernel) rfl (fun K hK=>?_) |((first |refine ae ?_ |refine ac ?_);simp(disch:=decide) only[qs,qb,if_true,if_false,reduceIte]) |refine ah rfl (fun K hK=>?_) |refine ct rfl ?_ |((try simp(disch:=omega) only[go_sem,ξ,ζ]);(first |apply hK |(clear hK;apply hK) |(clear hK;clear hK;apply hK));clear hK;(try clear K);(try dsimp only[ag,qs,qb])))
     refine cN rfl rfl rfl rfl (by exact kT) ?_;rintro v1 h1 s1 q1;obtain⟨_,_,rfl,q2,q3⟩:=q1;have q2':=q2;have q3':=q3;obtain⟨_,_,_,_,_,_,_,_,_,_,_,_,_,_,rfl,_,_⟩:=q2.sa;obtain⟨_,_,_,_,_,_,_,_,_,_,_,_,_,_,rfl,_,_⟩:=q3.sa
     repeat (first |(refine wo rfl (fun k hk=>?_);simp(disch:=omega) only[go_sem,ξ,ζ,hs,ht];apply hk;clear hk k) |refine wkt rfl ?_ |refine wk0 ?_ |((first |refine rg rfl rfl (fun K hK=>?_) |refine rd [.o 0,.o 1,.o 2] rfl (by decide+kernel) rfl (fun K hK=>?_) |refine rd [.o 0,.o 1,.o 4,.o 2,.o 3,.o 5,.o 6,.o 7,.o 8,.o 9,.o 10] rfl (by decide+kernel) rfl (fun K hK=>?_));(repeat (first |(refine wo rfl (fun k hk=>?_);simp(disch:=omega) only[go_sem,ξ,ζ,hs,ht];apply hk;clear hk k) |refine wkt rfl ?_ |refine wk0 ?_));(first |apply hK |(clear hK;apply hK) |(clear hK;clear hK;apply hK));clear hK;(try clear K);(try dsimp only[ag,qs,qb])) |((first |refine ae ?_ |refine ac ?_);simp(disch:=decide) only[qs,qb,if_true,if_false,reduceIte]) |refine ah rfl (fun K hK=>?_) |refine ct rfl ?_ |((try simp(disch:=omega) only[go_sem,ξ,ζ]);(first |apply hK |(clear hK;apply hK) |(clear hK;clear hK;apply hK));clear hK;(try clear K);(try dsimp only[ag,qs,qb])))
     rw[hs] at q2'
     rw[ht] at q3'
     (first |refine rg rfl rfl (fun K hK=>?_) |refine rd [.o 0,.o 1,.o 2] rfl (by decide+kernel) rfl (fun K hK=>?_) |refine rd [.o 0,.o 1,.o 4,.o 2,.o 3,.o 5,.o 6,.o 7,.o 8,.o 9,.o 10] rfl (by decide+kernel) rfl (fun K hK=>?_));(repeat (first |(refine wo rfl (fun k hk=>?_);simp(disch:=omega) only[go_sem,ξ,ζ];apply hk;clear hk k) |refine wkt rfl ?_));(try refine wk0 ?_)
     refine cN rfl rfl rfl rfl (by exact aF (n:=0) (by decide) (by decide)) ?_;rintro v2 h2 _ f2;obtain⟨v2_0,v2_1,v2_2,v2_3,v2_4,v2_5,v2_6,rfl,f2⟩:=f2.sa;(repeat (first |(refine wo rfl (fun k hk=>?_);simp(disch:=omega) only[go_sem,ξ,ζ];apply hk;clear hk k) |refine wkt rfl ?_));(try refine wk0 ?_)
     refine cN rfl rfl rfl rfl (by exact kI (q3'.to (h':=h2)) f2) ?_;rintro v3 h3 s3 rfl
     repeat (first |(refine wo rfl (fun k hk=>?_);simp(disch:=omega) only[go_sem,ξ,ζ];apply hk;clear hk k) |refine wkt rfl ?_ |refine wk0 ?_ |refine rg rfl rfl (fun K hK=>?_) |refine rd [.o 0,.o 1,.o 2] rfl (by decide+kernel) rfl (fun K hK=>?_) |refine rd [.o 0,.o 1,.o 4,.o 2,.o 3,.o 5,.o 6,.o 7,.o 8,.o 9,.o 10] rfl (by decide+kernel) rfl (fun K hK=>?_) |((first |refine ae ?_ |refine ac ?_);simp(disch:=decide) only[qs,qb,if_true,if_false,reduceIte]) |refine ah rfl (fun K hK=>?_) |refine ct rfl ?_ |((try simp(disch:=omega) only[go_sem,ξ,ζ]);(first |apply hK |(clear hK;apply hK) |(clear hK;clear hK;apply hK));clear hK;(try clear K);(try dsimp only[ag,qs,qb])))
     refine ai ?_;simp(disch:=omega) only[go_sem,ξ,ζ]
     all_goals rfl
    | false=>
     rw[hz] at kI
     show Spec _ _ _ _ (fun r h'=>Ir h' r (Out.fin (.ok ((s.prod t.inv).hull p.toNat)))) _
     cases t with
     |e=>cases ht
     | i c d=>
      refine Spec.enter (args:=[_,_,_]) (n:=44) Tryz.func86 rfl (by kernel_rfl) rfl (by simp) [.cell 6 41,.tmp 7] rfl (fun C _=>?_)
      repeat (first |(refine wo rfl (fun k hk=>?_);simp(disch:=omega) only[go_sem,ξ,ζ];apply hk;clear hk k) |refine wkt rfl ?_ |refine wk0 ?_ |refine rg rfl rfl (fun K hK=>?_) |refine rd [.o 0,.o 1,.o 2] rfl (by decide+kernel) rfl (fun K hK=>?_) |refine rd [.o 0,.o 1,.o 4,.o 2,.o 3,.o 5,.o 6,.o 7,.o 8,.o 9,.o 10] rfl (by decide+kernel) rfl (fun K hK=>?_) |((first |refine ae ?_ |refine ac ?_);simp(disch:=decide) only[qs,qb,if_true,if_false,reduceIte]) |refine ah rfl (fun K hK=>?_) |refine ct rfl ?_ |((try simp(disch:=omega) only[go_sem,ξ,ζ]);(first |apply hK |(clear hK;apply hK) |(clear hK;clear hK;apply hK));clear hK;(try clear K);(try dsimp only[ag,qs,qb])))
      refine cN rfl rfl rfl rfl (by exact kT) ?_;rintro v1 h1 s1 q1;obtain⟨_,_,rfl,q2,q3⟩:=q1;have q2':=q2;have q3':=q3;obtain⟨_,_,_,_,_,_,_,_,_,_,_,_,_,_,rfl,_,_⟩:=q2.sa;obtain⟨_,_,_,_,_,_,_,_,_,_,_,_,_,_,rfl,_,_⟩:=q3.sa
      repeat (first |(refine wo rfl (fun k hk=>?_);simp(disch:=omega) only[go_sem,ξ,ζ,hs,ht];apply hk;clear hk k) |refine wkt rfl ?_ |refine wk0 ?_ |((first |refine rg rfl rfl (fun K hK=>?_) |refine rd [.o 0,.o 1,.o 2] rfl (by decide+kernel) rfl (fun K hK=>?_) |refine rd [.o 0,.o 1,.o 4,.o 2,.o 3,.o 5,.o 6,.o 7,.o 8,.o 9,.o 10] rfl (by decide+kernel) rfl (fun K hK=>?_));(repeat (first |(refine wo rfl (fun k hk=>?_);simp(disch:=omega) only[go_sem,ξ,ζ,hs,ht];apply hk;clear hk k) |refine wkt rfl ?_ |refine wk0 ?_));(first |apply hK |(clear hK;apply hK) |(clear hK;clear hK;apply hK));clear hK;(try clear K);(try dsimp only[ag,qs,qb])) |((first |refine ae ?_ |refine ac ?_);simp(disch:=decide) only[qs,qb,if_true,if_false,reduceIte]) |refine ah rfl (fun K hK=>?_) |refine ct rfl ?_ |((try simp(disch:=omega) only[go_sem,ξ,ζ]);(first |apply hK |(clear hK;apply hK) |(clear hK;clear hK;apply hK));clear hK;(try clear K);(try dsimp only[ag,qs,qb])))
      rw[hs] at q2'
      rw[ht] at q3'
      (first |refine rg rfl rfl (fun K hK=>?_) |refine rd [.o 0,.o 1,.o 2] rfl (by decide+kernel) rfl (fun K hK=>?_) |refine rd [.o 0,.o 1,.o 4,.o 2,.o 3,.o 5,.o 6,.o 7,.o 8,.o 9,.o 10] rfl (by decide+kernel) rfl (fun K hK=>?_));(repeat (first |(refine wo rfl (fun k hk=>?_);simp(disch:=omega) only[go_sem,ξ,ζ];apply hk;clear hk k) |refine wkt rfl ?_));(try refine wk0 ?_)
      refine cN rfl rfl rfl rfl (by exact aF (n:=0) (by decide) (by decide)) ?_;rintro v2 h2 _ f2;obtain⟨v2_0,v2_1,v2_2,v2_3,v2_4,v2_5,v2_6,rfl,f2⟩:=f2.sa;(repeat (first |(refine wo rfl (fun k hk=>?_);simp(disch:=omega) only[go_sem,ξ,ζ];apply hk;clear hk k) |refine wkt rfl ?_));(try refine wk0 ?_)
      refine cN rfl rfl rfl rfl (by exact kI (q3'.to (h':=h2)) f2) ?_;rintro v3 h3 s3 rfl
      repeat (first |(refine wo rfl (fun k hk=>?_);simp(disch:=omega) only[go_sem,ξ,ζ];apply hk;clear hk k) |refine wkt rfl ?_ |refine wk0 ?_ |refine rg rfl rfl (fun K hK=>?_) |refine rd [.o 0,.o 1,.o 2] rfl (by decide+kernel) rfl (fun K hK=>?_) |refine rd [.o 0,.o 1,.o 4,.o 2,.o 3,.o 5,.o 6,.o 7,.o 8,.o 9,.o 10] rfl (by decide+kernel) rfl (fun K hK=>?_) |((first |refine ae ?_ |refine ac ?_);simp(disch:=decide) only[qs,qb,if_true,if_false,reduceIte]) |refine ah rfl (fun K hK=>?_) |refine ct rfl ?_ |((try simp(disch:=omega) only[go_sem,ξ,ζ]);(first |apply hK |(clear hK;apply hK) |(clear hK;clear hK;apply hK));clear hK;(try clear K);(try dsimp only[ag,qs,qb])))
      refine cN rfl rfl rfl rfl (by exact xk (q3'.to (h':=h3)) hz o2 (NS.le30 l2)) ?_;rintro v4 h4 st_h4 f4;obtain⟨v4_0,v4_1,v4_2,v4_3,v4_4,v4_5,v4_6,v4_7,v4_8,v4_9,v4_10,v4_11,v4_12,v4_13,rfl,f4⟩:=f4.sa;(repeat (first |(refine wo rfl (fun k hk=>?_);simp(disch:=omega) only[go_sem,ξ,ζ];apply hk;clear hk k) |refine wkt rfl ?_));(try refine wk0 ?_)
      refine cN rfl rfl rfl rfl (by exact CN (q2'.to (h':=h4)) f4 l1 (jw l2 (by decide))) ?_;rintro v5 h5 st_h5 f5;obtain⟨v5_0,v5_1,v5_2,v5_3,v5_4,v5_5,v5_6,v5_7,v5_8,v5_9,v5_10,v5_11,v5_12,v5_13,rfl,f5⟩:=f5.sa;(repeat (first |(refine wo rfl (fun k hk=>?_);simp(disch:=omega) only[go_sem,ξ,ζ];apply hk;clear hk k) |refine wkt rfl ?_));(try refine wk0 ?_)
      refine cN rfl rfl rfl rfl (by exact jb f5 ((fK l1 (jw l2 (by decide))).2.up (by decide)) (jt gp)) ?_;rintro v6 h6 st_h6 f6;obtain⟨v6_0,v6_1,v6_2,v6_3,v6_4,v6_5,v6_6,v6_7,v6_8,v6_9,v6_10,v6_11,v6_12,v6_13,rfl,f6⟩:=f6.sa;(repeat (first |(refine wo rfl (fun k hk=>?_);simp(disch:=omega) only[go_sem,ξ,ζ];apply hk;clear hk k) |refine wkt rfl ?_));(try refine wk0 ?_)
      refine cN rfl rfl rfl rfl (by exact iI f6) ?_;rintro r7 h7 st_h7 hr7;obtain⟨r7_0,r7_1,r7_2,r7_3,r7_4,r7_5,r7_6,r7_7,r7_8,r7_9,r7_10,r7_11,r7_12,r7_13,r7_14,r7_15,r7_16,rfl,hr7⟩:=hr7.sa
      repeat (first |(refine wo rfl (fun k hk=>?_);simp(disch:=omega) only[go_sem,ξ,ζ];apply hk;clear hk k) |refine wkt rfl ?_ |refine wk0 ?_ |refine rg rfl rfl (fun K hK=>?_) |refine rd [.o 0,.o 1,.o 2] rfl (by decide+kernel) rfl (fun K hK=>?_) |refine rd [.o 0,.o 1,.o 4,.o 2,.o 3,.o 5,.o 6,.o 7,.o 8,.o 9,.o 10] rfl (by decide+kernel) rfl (fun K hK=>?_) |((first |refine ae ?_ |refine ac ?_);simp(disch:=decide) only[qs,qb,if_true,if_false,reduceIte]) |refine ah rfl (fun K hK=>?_) |refine ct rfl ?_ |((try simp(disch:=omega) only[go_sem,ξ,ζ]);(first |apply hK |(clear hK;apply hK) |(clear hK;clear hK;apply hK));clear hK;(try clear K);(try dsimp only[ag,qs,qb])))
      refine ai ?_;simp(disch:=omega) only[go_sem,ξ,ζ]
      exact hr7
end Go.Q
