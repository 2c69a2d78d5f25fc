/-
  Contracts of package interval, and what stands on it. Conditions: each theorem's own.
-/
import Derived.Test.YtgmcchhklbeckaaGreatDoorKd810e4PkN
import Derived.Test.YtgmcchhklbeckaaGreatDoorKf08e96PkG
import Derived.Test.YtgmcchhklbeckaaGreatDoorKe1901fPkI
import Derived.Test.YtgmcchhklbeckaaGreatDoorK745974PkM
import Derived.Test.YtgmcchhklbeckaaGreatDoorK6145e3PkL
set_option linter.unusedVariables false
set_option linter.unusedSimpArgs false
open Nat renaming reduceBEq→ξ,reduceAdd→ζ,le_trans→χ,le_refl→η,pos_of_ne_zero→τ,mul_assoc→σ,pow_succ→qAn,pow_pos→qAo,zero_le→qBh,lt_or_ge→qBj,mod_lt→qBl,one_mul→qBm
open List renaming length_append→qAp,all_eq_true→qBd
namespace Go.Q
open Go.Proofs
set_option maxRecDepth 100000
set_option maxHeartbeats 4000000
def NS.size:NS→NS
 |.e=>.e
 |.i a b=>if 0≤(NS.i a b).slo then .i a b else if (NS.i a b).shi≤0 then (NS.i a b).minus else .i (some ((0:Int):Rat)) (jmax (a.map (-·)) b)
theorem NS.size_i {a b:Option Rat}:(NS.i a b).size=if 0≤(NS.i a b).slo then .i a b else if (NS.i a b).shi≤0 then (NS.i a b).minus else .i (some ((0:Int):Rat)) (jmax (a.map (-·)) b):=rfl
theorem NS.le.size {x:NS} {k:Nat} (hk:1≤k) (h:x.le k):x.size.le k:=by
 cases x with
 |e=>exact h
 | i a b =>
  rw[NS.size_i]
  split
  ·exact h
  ·split
   ·exact h.minus
   ·rw[NS.le_i] at h ⊢
    refine⟨fun q e=>?_,fun q e=>?_⟩
    ·cases e;exact χ (by decide) hk
    ·cases a with
     |none=>cases e
     | some a=>
      cases b with
      |none=>cases e
      |some b=>cases e;exact px (by rw[cz];exact h.1 _ rfl) (h.2 _ rfl)
theorem NS.ok_size {x:NS} (hx:x.ok):x.size.ok:=by
 cases x with
 |e=>exact hx
 | i a b =>
  rw[NS.size_i]
  split
  ·exact hx
  ·split
   ·exact NS.ok_minus hx
   ·rename_i h1 h2
    cases a with
    |none=>rfl
    | some a=>
     cases b with
     |none=>rfl
     | some b=>
      have h3:0 < b:=by
       have h2:¬sgn3 b≤0:=h2
       unfold sgn3 at h2;grind
      have h4:¬max (-a) b < ((0:Int):Rat):=by
       have:((0:Int):Rat)=0:=rfl
       rw[this];grind
      show(!decide (max (-a) b < ((0:Int):Rat)))=true
      rw[decide_eq_false h4];rfl
theorem Abs1 {h0 h:PH} [Le h0 h] {s:Value} {x:NS} (hs:Sn h0 s x) (lx:x.le (2^30)):Spec mach 166 #[s] h (fun v h'=>Sn h' v x.size) NP:=by
 cases x with
 | e=>
  have kS:=fun {h} [Le h0 h]=>pv (h:=h) hs
  obtain⟨_,_,_,_,_,_,_,_,_,_,_,_,_,_,_,_,rfl,hs⟩:=hs.sa
  dsimp only[NS.void] at*
  refine Spec.enter (args:=[_]) (n:=43) Tryz.func166 rfl (by kernel_rfl) rfl (by simp) [.cell 2 91] rfl (fun C _=>?_)
  (repeat (first |((first |refine rg rfl rfl (fun K hK=>?_) |refine rd [.o 0,.o 1,.o 3,.o 4,.o 2,.o 5,.o 6,.o 7] rfl (by decide+kernel) rfl (fun K hK=>?_));(repeat (first |(refine wo rfl (fun k hk=>?_);simp(disch:=omega) only[go_sem,ξ,ζ];apply hk;clear hk k) |refine wkt rfl ?_));(try refine wk0 ?_);apply hK;clear hK K;(try dsimp only[ag,qs,qb])) |((first |refine ae ?_ |refine ac ?_);simp(disch:=decide) only[qs,qb,if_true,if_false,reduceIte]) |refine ah rfl (fun K hK=>?_) |refine ct rfl ?_ |((first |refine hK _ _ ?_ |(clear hK;refine hK _ _ ?_) |(clear hK;clear hK;refine hK _ _ ?_));clear hK;(try clear K))));((first |refine rg rfl rfl (fun K hK=>?_) |refine rd [.o 0,.o 1,.o 3,.o 4,.o 2,.o 5,.o 6,.o 7] rfl (by decide+kernel) rfl (fun K hK=>?_));(repeat (first |(refine wo rfl (fun k hk=>?_);simp(disch:=omega) only[go_sem,ξ,ζ];apply hk;clear hk k) |refine wkt rfl ?_ |with_reducible refine wk0 ?_ |with_reducible refine ao ?_ |with_reducible refine aj ?_ wt_no |with_reducible refine ak ?_)))
  refine cN rfl rfl rfl rfl (by exact kS) ?_;rintro v2 h2 st2 ⟨m1,m2,rfl⟩;(repeat (first |(refine wo rfl (fun k hk=>?_);simp(disch:=omega) only[go_sem,ξ,ζ];apply hk;clear hk k) |refine wkt rfl ?_ |with_reducible refine wk0 ?_ |with_reducible refine ao ?_ |with_reducible refine aj ?_ wt_no |with_reducible refine ak ?_))
  ((try (simp(disch:=omega) only[go_sem,ξ,ζ]));apply hK;clear hK;(try clear K);(try dsimp only[ag,qs]));(repeat (first |((first |refine rg rfl rfl (fun K hK=>?_) |refine rd [.o 0,.o 1,.o 3,.o 4,.o 2,.o 5,.o 6,.o 7] rfl (by decide+kernel) rfl (fun K hK=>?_));(repeat (first |(refine wo rfl (fun k hk=>?_);simp(disch:=omega) only[go_sem,ξ,ζ];apply hk;clear hk k) |refine wkt rfl ?_));(try refine wk0 ?_);apply hK;clear hK K;(try dsimp only[ag,qs,qb])) |((first |refine ae ?_ |refine ac ?_);simp(disch:=decide) only[qs,qb,if_true,if_false,reduceIte]) |refine ah rfl (fun K hK=>?_) |refine ct rfl ?_ |((first |refine hK _ _ ?_ |(clear hK;refine hK _ _ ?_) |(clear hK;clear hK;refine hK _ _ ?_));clear hK;(try clear K))))
  refine ai ?_;simp(disch:=omega) only[go_sem,ξ,ζ]
  exact hs.to
 | i a b =>
  have kS:=fun {h} [Le h0 h]=>jT (h:=h) hs
  have kM:=fun {h} [Le h0 h]=>jK (h:=h) hs
  rw[NS.le_i] at lx
  rw[NS.size_i]
  have hs0:=hs
  by_cases p1:0≤(NS.i a b).slo
  ·rw[if_pos p1]
   generalize(NS.i a b).slo=m1 at*
   generalize(NS.i a b).shi=m2 at*
   obtain⟨_,_,_,_,_,_,_,_,_,_,_,_,_,_,rfl,e1,e2⟩:=hs.ie
   refine Spec.enter (args:=[_]) (n:=43) Tryz.func166 rfl (by kernel_rfl) rfl (by simp) [.cell 2 91] rfl (fun C _=>?_)
   (repeat (first |((first |refine rg rfl rfl (fun K hK=>?_) |refine rd [.o 0,.o 1,.o 3,.o 4,.o 2,.o 5,.o 6,.o 7] rfl (by decide+kernel) rfl (fun K hK=>?_));(repeat (first |(refine wo rfl (fun k hk=>?_);simp(disch:=omega) only[go_sem,ξ,ζ];apply hk;clear hk k) |refine wkt rfl ?_));(try refine wk0 ?_);apply hK;clear hK K;(try dsimp only[ag,qs,qb])) |((first |refine ae ?_ |refine ac ?_);simp(disch:=decide) only[qs,qb,if_true,if_false,reduceIte]) |refine ah rfl (fun K hK=>?_) |refine ct rfl ?_ |((first |refine hK _ _ ?_ |(clear hK;refine hK _ _ ?_) |(clear hK;clear hK;refine hK _ _ ?_));clear hK;(try clear K))));((first |refine rg rfl rfl (fun K hK=>?_) |refine rd [.o 0,.o 1,.o 3,.o 4,.o 2,.o 5,.o 6,.o 7] rfl (by decide+kernel) rfl (fun K hK=>?_));(repeat (first |(refine wo rfl (fun k hk=>?_);simp(disch:=omega) only[go_sem,ξ,ζ];apply hk;clear hk k) |refine wkt rfl ?_ |with_reducible refine wk0 ?_ |with_reducible refine ao ?_ |with_reducible refine aj ?_ wt_no |with_reducible refine ak ?_)))
   refine cN rfl rfl rfl rfl (by exact kS) ?_;rintro v2 h2 st2 rfl;(repeat (first |(refine wo rfl (fun k hk=>?_);simp(disch:=omega) only[go_sem,ξ,ζ];apply hk;clear hk k) |refine wkt rfl ?_ |with_reducible refine wk0 ?_ |with_reducible refine ao ?_ |with_reducible refine aj ?_ wt_no |with_reducible refine ak ?_))
   ((try (simp(disch:=omega) only[go_sem,ξ,ζ]));apply hK;clear hK;(try clear K);(try dsimp only[ag,qs]));(repeat (first |((first |refine rg rfl rfl (fun K hK=>?_) |refine rd [.o 0,.o 1,.o 3,.o 4,.o 2,.o 5,.o 6,.o 7] rfl (by decide+kernel) rfl (fun K hK=>?_));(repeat (first |(refine wo rfl (fun k hk=>?_);simp(disch:=omega) only[go_sem,ξ,ζ];apply hk;clear hk k) |refine wkt rfl ?_));(try refine wk0 ?_);apply hK;clear hK K;(try dsimp only[ag,qs,qb])) |((first |refine ae ?_ |refine ac ?_);simp(disch:=decide) only[qs,qb,if_true,if_false,reduceIte]) |refine ah rfl (fun K hK=>?_) |refine ct rfl ?_ |((first |refine hK _ _ ?_ |(clear hK;refine hK _ _ ?_) |(clear hK;clear hK;refine hK _ _ ?_));clear hK;(try clear K))))
   refine ai ?_;simp(disch:=omega) only[go_sem,ξ,ζ]
   exact hs0.to
  ·rw[if_neg p1]
   by_cases p2:(NS.i a b).shi≤0
   ·rw[if_pos p2]
    generalize(NS.i a b).slo=m1 at*
    generalize(NS.i a b).shi=m2 at*
    obtain⟨_,_,_,_,_,_,_,_,_,_,_,_,_,_,rfl,e1,e2⟩:=hs.ie
    refine Spec.enter (args:=[_]) (n:=43) Tryz.func166 rfl (by kernel_rfl) rfl (by simp) [.cell 2 91] rfl (fun C _=>?_)
    (repeat (first |((first |refine rg rfl rfl (fun K hK=>?_) |refine rd [.o 0,.o 1,.o 3,.o 4,.o 2,.o 5,.o 6,.o 7] rfl (by decide+kernel) rfl (fun K hK=>?_));(repeat (first |(refine wo rfl (fun k hk=>?_);simp(disch:=omega) only[go_sem,ξ,ζ];apply hk;clear hk k) |refine wkt rfl ?_));(try refine wk0 ?_);apply hK;clear hK K;(try dsimp only[ag,qs,qb])) |((first |refine ae ?_ |refine ac ?_);simp(disch:=decide) only[qs,qb,if_true,if_false,reduceIte]) |refine ah rfl (fun K hK=>?_) |refine ct rfl ?_ |((first |refine hK _ _ ?_ |(clear hK;refine hK _ _ ?_) |(clear hK;clear hK;refine hK _ _ ?_));clear hK;(try clear K))));((first |refine rg rfl rfl (fun K hK=>?_) |refine rd [.o 0,.o 1,.o 3,.o 4,.o 2,.o 5,.o 6,.o 7] rfl (by decide+kernel) rfl (fun K hK=>?_));(repeat (first |(refine wo rfl (fun k hk=>?_);simp(disch:=omega) only[go_sem,ξ,ζ];apply hk;clear hk k) |refine wkt rfl ?_ |with_reducible refine wk0 ?_ |with_reducible refine ao ?_ |with_reducible refine aj ?_ wt_no |with_reducible refine ak ?_)))
    refine cN rfl rfl rfl rfl (by exact kS) ?_;rintro v2 h2 st2 rfl;(repeat (first |(refine wo rfl (fun k hk=>?_);simp(disch:=omega) only[go_sem,ξ,ζ];apply hk;clear hk k) |refine wkt rfl ?_ |with_reducible refine wk0 ?_ |with_reducible refine ao ?_ |with_reducible refine aj ?_ wt_no |with_reducible refine ak ?_))
    ((try (simp(disch:=omega) only[go_sem,ξ,ζ]));apply hK;clear hK;(try clear K);(try dsimp only[ag,qs]));(repeat (first |((first |refine rg rfl rfl (fun K hK=>?_) |refine rd [.o 0,.o 1,.o 3,.o 4,.o 2,.o 5,.o 6,.o 7] rfl (by decide+kernel) rfl (fun K hK=>?_));(repeat (first |(refine wo rfl (fun k hk=>?_);simp(disch:=omega) only[go_sem,ξ,ζ];apply hk;clear hk k) |refine wkt rfl ?_));(try refine wk0 ?_);apply hK;clear hK K;(try dsimp only[ag,qs,qb])) |((first |refine ae ?_ |refine ac ?_);simp(disch:=decide) only[qs,qb,if_true,if_false,reduceIte]) |refine ah rfl (fun K hK=>?_) |refine ct rfl ?_ |((first |refine hK _ _ ?_ |(clear hK;refine hK _ _ ?_) |(clear hK;clear hK;refine hK _ _ ?_));clear hK;(try clear K))));((first |refine rg rfl rfl (fun K hK=>?_) |refine rd [.o 0,.o 1,.o 3,.o 4,.o 2,.o 5,.o 6,.o 7] rfl (by decide+kernel) rfl (fun K hK=>?_));(repeat (first |(refine wo rfl (fun k hk=>?_);simp(disch:=omega) only[go_sem,ξ,ζ];apply hk;clear hk k) |refine wkt rfl ?_ |with_reducible refine wk0 ?_ |with_reducible refine ao ?_ |with_reducible refine aj ?_ wt_no |with_reducible refine ak ?_)))
    refine cN rfl rfl rfl rfl (by exact kM) ?_;rintro v3 h3 st_h3 f3;obtain⟨v3_0,v3_1,v3_2,v3_3,v3_4,v3_5,v3_6,v3_7,v3_8,v3_9,v3_10,v3_11,v3_12,v3_13,v3_14,v3_15,rfl,f3⟩:=f3.sa;(repeat (first |(refine wo rfl (fun k hk=>?_);simp(disch:=omega) only[go_sem,ξ,ζ];apply hk;clear hk k) |refine wkt rfl ?_ |with_reducible refine wk0 ?_ |with_reducible refine ao ?_ |with_reducible refine aj ?_ wt_no |with_reducible refine ak ?_))
    ((try (simp(disch:=omega) only[go_sem,ξ,ζ]));apply hK;clear hK;(try clear K);(try dsimp only[ag,qs]));(repeat (first |((first |refine rg rfl rfl (fun K hK=>?_) |refine rd [.o 0,.o 1,.o 3,.o 4,.o 2,.o 5,.o 6,.o 7] rfl (by decide+kernel) rfl (fun K hK=>?_));(repeat (first |(refine wo rfl (fun k hk=>?_);simp(disch:=omega) only[go_sem,ξ,ζ];apply hk;clear hk k) |refine wkt rfl ?_));(try refine wk0 ?_);apply hK;clear hK K;(try dsimp only[ag,qs,qb])) |((first |refine ae ?_ |refine ac ?_);simp(disch:=decide) only[qs,qb,if_true,if_false,reduceIte]) |refine ah rfl (fun K hK=>?_) |refine ct rfl ?_ |((first |refine hK _ _ ?_ |(clear hK;refine hK _ _ ?_) |(clear hK;clear hK;refine hK _ _ ?_));clear hK;(try clear K))))
    refine ai ?_;simp(disch:=omega) only[go_sem,ξ,ζ]
    exact f3
   ·rw[if_neg p2]
    generalize(NS.i a b).slo=m1 at*
    generalize(NS.i a b).shi=m2 at*
    obtain⟨b1,a1,m1,c1,a2,m2,c2,b2,a3,m3,c3,a4,m4,c4,rfl,e1,e2⟩:=hs.ie
    cases a with
    | none=>
     generalize b.isNone=ub at*
     dsimp only[Option.isNone]
     refine Spec.enter (args:=[_]) (n:=43) Tryz.func166 rfl (by kernel_rfl) rfl (by simp) [.cell 2 91] rfl (fun C _=>?_)
     (repeat (first |((first |refine rg rfl rfl (fun K hK=>?_) |refine rd [.o 0,.o 1,.o 3,.o 4,.o 2,.o 5,.o 6,.o 7] rfl (by decide+kernel) rfl (fun K hK=>?_));(repeat (first |(refine wo rfl (fun k hk=>?_);simp(disch:=omega) only[go_sem,ξ,ζ];apply hk;clear hk k) |refine wkt rfl ?_));(try refine wk0 ?_);apply hK;clear hK K;(try dsimp only[ag,qs,qb])) |((first |refine ae ?_ |refine ac ?_);simp(disch:=decide) only[qs,qb,if_true,if_false,reduceIte]) |refine ah rfl (fun K hK=>?_) |refine ct rfl ?_ |((first |refine hK _ _ ?_ |(clear hK;refine hK _ _ ?_) |(clear hK;clear hK;refine hK _ _ ?_));clear hK;(try clear K))));((first |refine rg rfl rfl (fun K hK=>?_) |refine rd [.o 0,.o 1,.o 3,.o 4,.o 2,.o 5,.o 6,.o 7] rfl (by decide+kernel) rfl (fun K hK=>?_));(repeat (first |(refine wo rfl (fun k hk=>?_);simp(disch:=omega) only[go_sem,ξ,ζ];apply hk;clear hk k) |refine wkt rfl ?_ |with_reducible refine wk0 ?_ |with_reducible refine ao ?_ |with_reducible refine aj ?_ wt_no |with_reducible refine ak ?_)))
     refine cN rfl rfl rfl rfl (by exact kS) ?_;rintro v2 h2 st2 rfl;(repeat (first |(refine wo rfl (fun k hk=>?_);simp(disch:=omega) only[go_sem,ξ,ζ];apply hk;clear hk k) |refine wkt rfl ?_ |with_reducible refine wk0 ?_ |with_reducible refine ao ?_ |with_reducible refine aj ?_ wt_no |with_reducible refine ak ?_))
     ((try (simp(disch:=omega) only[go_sem,ξ,ζ]));apply hK;clear hK;(try clear K);(try dsimp only[ag,qs]));(repeat (first |((first |refine rg rfl rfl (fun K hK=>?_) |refine rd [.o 0,.o 1,.o 3,.o 4,.o 2,.o 5,.o 6,.o 7] rfl (by decide+kernel) rfl (fun K hK=>?_));(repeat (first |(refine wo rfl (fun k hk=>?_);simp(disch:=omega) only[go_sem,ξ,ζ];apply hk;clear hk k) |refine wkt rfl ?_));(try refine wk0 ?_);apply hK;clear hK K;(try dsimp only[ag,qs,qb])) |((first |refine ae ?_ |refine ac ?_);simp(disch:=decide) only[qs,qb,if_true,if_false,reduceIte]) |refine ah rfl (fun K hK=>?_) |refine ct rfl ?_ |((first |refine hK _ _ ?_ |(clear hK;refine hK _ _ ?_) |(clear hK;clear hK;refine hK _ _ ?_));clear hK;(try clear K))))
     (first |refine AWP_t (.seg [.o 1,.o 2] (.alt 0 (.seg [.o 3,.o 4,.o 5,.o 6,.o 7] (.alt 8 (.alt 9 .done .no) .no)) (.alt 8 (.alt 0 (.seg [.o 3,.o 4,.o 5,.o 6,.o 7] (.alt 9 .done .no)) .no) .no))) (by decide+kernel) rfl (fun K hK=>?_) |refine mR (.seg [.o 1,.o 2] (.alt 0 (.seg [.o 3,.o 4,.o 5,.o 6,.o 7] (.alt 8 (.alt 9 .done .no) .no)) (.alt 8 (.alt 0 (.seg [.o 3,.o 4,.o 5,.o 6,.o 7] (.alt 9 .done .no)) .no) .no))) (by decide+kernel) rfl (fun K hK=>?_))
     have rest:∀(b3:Bool) (xa:Option Addr) (xl xc:Nat) (ya:Option Addr) (yl yc:Nat) (h':PH) (S:AS) [Le h0 h'],Fr h' (.agg #[.bool b3,.slice xa xl xc,.slice ya yl yc]) ((0:Int):Rat)→
       S.le ⟨[(1,.p 0 0),(2,.p 1 0),(5,.p 2 0)],[[.bool b1,.slice a1 m1 c1,.slice a2 m2 c2,.bool b2,.slice a3 m3 c3,.slice a4 m4 c4,.bool true,.bool ub,.bool false],[.bool false,.slice none 0 0,.slice none 0 0,.bool false,.slice none 0 0,.slice none 0 0,.bool false,.bool false,.bool false],[.bool b3,.slice xa xl xc,.slice ya yl yc,.bool false,.slice none 0 0,.slice none 0 0,.bool false,.bool true,.bool false]]⟩→K S h':=by
      intro b3 xa xl xc ya yl yc h' S _ f3 hS
      refine hK _ _ (fq _ hS ?_);clear hK K
      (repeat (first |((first |refine rg rfl rfl (fun K hK=>?_) |refine rd [.o 0,.o 1,.o 3,.o 4,.o 2,.o 5,.o 6,.o 7] rfl (by decide+kernel) rfl (fun K hK=>?_));(repeat (first |(refine wo rfl (fun k hk=>?_);simp(disch:=omega) only[go_sem,ξ,ζ];apply hk;clear hk k) |refine wkt rfl ?_));(try refine wk0 ?_);apply hK;clear hK K;(try dsimp only[ag,qs,qb])) |((first |refine ae ?_ |refine ac ?_);simp(disch:=decide) only[qs,qb,if_true,if_false,reduceIte]) |refine ah rfl (fun K hK=>?_) |refine ct rfl ?_ |((first |refine hK _ _ ?_ |(clear hK;refine hK _ _ ?_) |(clear hK;clear hK;refine hK _ _ ?_));clear hK;(try clear K))))
      refine ai ?_;simp(disch:=omega) only[go_sem,ξ,ζ]
      exact⟨_,_,_,_,_,_,rfl,En.of f3.to,En.nil _⟩
     clear hK
     (repeat (first |(refine wo rfl (fun k hk=>?_);simp(disch:=omega) only[go_sem,ξ,ζ];apply hk;clear hk k) |refine wkt rfl ?_ |with_reducible refine wk0 ?_ |with_reducible refine ao ?_ |with_reducible refine aj ?_ wt_no |with_reducible refine ak ?_))
     refine aj ?_ (aj ?_ wt_no)
     ·refine cN rfl rfl rfl rfl (by exact cB (n:=0) (by decide) (by decide)) ?_;rintro v3 h3 _ f3;obtain⟨v3_0,v3_1,v3_2,v3_3,v3_4,v3_5,v3_6,rfl,f3⟩:=f3.sa;(repeat (first |(refine wo rfl (fun k hk=>?_);simp(disch:=omega) only[go_sem,ξ,ζ];apply hk;clear hk k) |refine wkt rfl ?_ |with_reducible refine wk0 ?_ |with_reducible refine ao ?_ |with_reducible refine aj ?_ wt_no |with_reducible refine ak ?_))
      refine rest _ _ _ _ _ _ _ _ _ f3 ?_
      simp(disch:=omega) only[go_sem,ξ,ζ,true_or]
     ·(repeat (first |(refine wo rfl (fun k hk=>?_);simp(disch:=omega) only[go_sem,ξ,ζ];apply hk;clear hk k) |refine wkt rfl ?_ |with_reducible refine wk0 ?_ |with_reducible refine ao ?_ |with_reducible refine aj ?_ wt_no |with_reducible refine ak ?_))
      refine cN rfl rfl rfl rfl (by exact cB (n:=0) (by decide) (by decide)) ?_;rintro v3 h3 _ f3;obtain⟨v3_0,v3_1,v3_2,v3_3,v3_4,v3_5,v3_6,rfl,f3⟩:=f3.sa;(repeat (first |(refine wo rfl (fun k hk=>?_);simp(disch:=omega) only[go_sem,ξ,ζ];apply hk;clear hk k) |refine wkt rfl ?_ |with_reducible refine wk0 ?_ |with_reducible refine ao ?_ |with_reducible refine aj ?_ wt_no |with_reducible refine ak ?_))
      refine rest _ _ _ _ _ _ _ _ _ f3 ?_
      simp(disch:=omega) only[go_sem,ξ,ζ,true_or]
    | some a=>
     cases b with
     | none=>
      dsimp only[Option.isNone]
      refine Spec.enter (args:=[_]) (n:=43) Tryz.func166 rfl (by kernel_rfl) rfl (by simp) [.cell 2 91] rfl (fun C _=>?_)
      (repeat (first |((first |refine rg rfl rfl (fun K hK=>?_) |refine rd [.o 0,.o 1,.o 3,.o 4,.o 2,.o 5,.o 6,.o 7] rfl (by decide+kernel) rfl (fun K hK=>?_));(repeat (first |(refine wo rfl (fun k hk=>?_);simp(disch:=omega) only[go_sem,ξ,ζ];apply hk;clear hk k) |refine wkt rfl ?_));(try refine wk0 ?_);apply hK;clear hK K;(try dsimp only[ag,qs,qb])) |((first |refine ae ?_ |refine ac ?_);simp(disch:=decide) only[qs,qb,if_true,if_false,reduceIte]) |refine ah rfl (fun K hK=>?_) |refine ct rfl ?_ |((first |refine hK _ _ ?_ |(clear hK;refine hK _ _ ?_) |(clear hK;clear hK;refine hK _ _ ?_));clear hK;(try clear K))));((first |refine rg rfl rfl (fun K hK=>?_) |refine rd [.o 0,.o 1,.o 3,.o 4,.o 2,.o 5,.o 6,.o 7] rfl (by decide+kernel) rfl (fun K hK=>?_));(repeat (first |(refine wo rfl (fun k hk=>?_);simp(disch:=omega) only[go_sem,ξ,ζ];apply hk;clear hk k) |refine wkt rfl ?_ |with_reducible refine wk0 ?_ |with_reducible refine ao ?_ |with_reducible refine aj ?_ wt_no |with_reducible refine ak ?_)))
      refine cN rfl rfl rfl rfl (by exact kS) ?_;rintro v2 h2 st2 rfl;(repeat (first |(refine wo rfl (fun k hk=>?_);simp(disch:=omega) only[go_sem,ξ,ζ];apply hk;clear hk k) |refine wkt rfl ?_ |with_reducible refine wk0 ?_ |with_reducible refine ao ?_ |with_reducible refine aj ?_ wt_no |with_reducible refine ak ?_))
      ((try (simp(disch:=omega) only[go_sem,ξ,ζ]));apply hK;clear hK;(try clear K);(try dsimp only[ag,qs]));(repeat (first |((first |refine rg rfl rfl (fun K hK=>?_) |refine rd [.o 0,.o 1,.o 3,.o 4,.o 2,.o 5,.o 6,.o 7] rfl (by decide+kernel) rfl (fun K hK=>?_));(repeat (first |(refine wo rfl (fun k hk=>?_);simp(disch:=omega) only[go_sem,ξ,ζ];apply hk;clear hk k) |refine wkt rfl ?_));(try refine wk0 ?_);apply hK;clear hK K;(try dsimp only[ag,qs,qb])) |((first |refine ae ?_ |refine ac ?_);simp(disch:=decide) only[qs,qb,if_true,if_false,reduceIte]) |refine ah rfl (fun K hK=>?_) |refine ct rfl ?_ |((first |refine hK _ _ ?_ |(clear hK;refine hK _ _ ?_) |(clear hK;clear hK;refine hK _ _ ?_));clear hK;(try clear K))))
      (first |refine AWP_t (.seg [.o 1,.o 2] (.alt 0 (.seg [.o 3,.o 4,.o 5,.o 6,.o 7] (.alt 8 (.alt 9 .done .no) .no)) (.alt 8 (.alt 0 (.seg [.o 3,.o 4,.o 5,.o 6,.o 7] (.alt 9 .done .no)) .no) .no))) (by decide+kernel) rfl (fun K hK=>?_) |refine mR (.seg [.o 1,.o 2] (.alt 0 (.seg [.o 3,.o 4,.o 5,.o 6,.o 7] (.alt 8 (.alt 9 .done .no) .no)) (.alt 8 (.alt 0 (.seg [.o 3,.o 4,.o 5,.o 6,.o 7] (.alt 9 .done .no)) .no) .no))) (by decide+kernel) rfl (fun K hK=>?_))
      have rest:∀(b3:Bool) (xa:Option Addr) (xl xc:Nat) (ya:Option Addr) (yl yc:Nat) (h':PH) (S:AS) [Le h0 h'],Fr h' (.agg #[.bool b3,.slice xa xl xc,.slice ya yl yc]) ((0:Int):Rat)→
        S.le ⟨[(1,.p 0 0),(2,.p 1 0),(5,.p 2 0)],[[.bool b1,.slice a1 m1 c1,.slice a2 m2 c2,.bool b2,.slice a3 m3 c3,.slice a4 m4 c4,.bool false,.bool true,.bool false],[.bool false,.slice none 0 0,.slice none 0 0,.bool false,.slice none 0 0,.slice none 0 0,.bool false,.bool false,.bool false],[.bool b3,.slice xa xl xc,.slice ya yl yc,.bool false,.slice none 0 0,.slice none 0 0,.bool false,.bool true,.bool false]]⟩→K S h':=by
       intro b3 xa xl xc ya yl yc h' S _ f3 hS
       refine hK _ _ (fq _ hS ?_);clear hK K
       (repeat (first |((first |refine rg rfl rfl (fun K hK=>?_) |refine rd [.o 0,.o 1,.o 3,.o 4,.o 2,.o 5,.o 6,.o 7] rfl (by decide+kernel) rfl (fun K hK=>?_));(repeat (first |(refine wo rfl (fun k hk=>?_);simp(disch:=omega) only[go_sem,ξ,ζ];apply hk;clear hk k) |refine wkt rfl ?_));(try refine wk0 ?_);apply hK;clear hK K;(try dsimp only[ag,qs,qb])) |((first |refine ae ?_ |refine ac ?_);simp(disch:=decide) only[qs,qb,if_true,if_false,reduceIte]) |refine ah rfl (fun K hK=>?_) |refine ct rfl ?_ |((first |refine hK _ _ ?_ |(clear hK;refine hK _ _ ?_) |(clear hK;clear hK;refine hK _ _ ?_));clear hK;(try clear K))))
       refine ai ?_;simp(disch:=omega) only[go_sem,ξ,ζ]
       exact⟨_,_,_,_,_,_,rfl,En.of f3.to,En.nil _⟩
      clear hK
      (repeat (first |(refine wo rfl (fun k hk=>?_);simp(disch:=omega) only[go_sem,ξ,ζ];apply hk;clear hk k) |refine wkt rfl ?_ |with_reducible refine wk0 ?_ |with_reducible refine ao ?_ |with_reducible refine aj ?_ wt_no |with_reducible refine ak ?_))
      refine aj ?_ (aj ?_ wt_no)
      ·refine cN rfl rfl rfl rfl (by exact cB (n:=0) (by decide) (by decide)) ?_;rintro v3 h3 _ f3;obtain⟨v3_0,v3_1,v3_2,v3_3,v3_4,v3_5,v3_6,rfl,f3⟩:=f3.sa;(repeat (first |(refine wo rfl (fun k hk=>?_);simp(disch:=omega) only[go_sem,ξ,ζ];apply hk;clear hk k) |refine wkt rfl ?_ |with_reducible refine wk0 ?_ |with_reducible refine ao ?_ |with_reducible refine aj ?_ wt_no |with_reducible refine ak ?_))
       refine rest _ _ _ _ _ _ _ _ _ f3 ?_
       simp(disch:=omega) only[go_sem,ξ,ζ,true_or]
      ·(repeat (first |(refine wo rfl (fun k hk=>?_);simp(disch:=omega) only[go_sem,ξ,ζ];apply hk;clear hk k) |refine wkt rfl ?_ |with_reducible refine wk0 ?_ |with_reducible refine ao ?_ |with_reducible refine aj ?_ wt_no |with_reducible refine ak ?_))
       refine cN rfl rfl rfl rfl (by exact cB (n:=0) (by decide) (by decide)) ?_;rintro v3 h3 _ f3;obtain⟨v3_0,v3_1,v3_2,v3_3,v3_4,v3_5,v3_6,rfl,f3⟩:=f3.sa;(repeat (first |(refine wo rfl (fun k hk=>?_);simp(disch:=omega) only[go_sem,ξ,ζ];apply hk;clear hk k) |refine wkt rfl ?_ |with_reducible refine wk0 ?_ |with_reducible refine ao ?_ |with_reducible refine aj ?_ wt_no |with_reducible refine ak ?_))
       refine rest _ _ _ _ _ _ _ _ _ f3 ?_
       simp(disch:=omega) only[go_sem,ξ,ζ,true_or]
     | some b=>
      dsimp only[Option.isNone]
      refine Spec.enter (args:=[_]) (n:=43) Tryz.func166 rfl (by kernel_rfl) rfl (by simp) [.cell 2 91] rfl (fun C _=>?_)
      (repeat (first |((first |refine rg rfl rfl (fun K hK=>?_) |refine rd [.o 0,.o 1,.o 3,.o 4,.o 2,.o 5,.o 6,.o 7] rfl (by decide+kernel) rfl (fun K hK=>?_));(repeat (first |(refine wo rfl (fun k hk=>?_);simp(disch:=omega) only[go_sem,ξ,ζ];apply hk;clear hk k) |refine wkt rfl ?_));(try refine wk0 ?_);apply hK;clear hK K;(try dsimp only[ag,qs,qb])) |((first |refine ae ?_ |refine ac ?_);simp(disch:=decide) only[qs,qb,if_true,if_false,reduceIte]) |refine ah rfl (fun K hK=>?_) |refine ct rfl ?_ |((first |refine hK _ _ ?_ |(clear hK;refine hK _ _ ?_) |(clear hK;clear hK;refine hK _ _ ?_));clear hK;(try clear K))));((first |refine rg rfl rfl (fun K hK=>?_) |refine rd [.o 0,.o 1,.o 3,.o 4,.o 2,.o 5,.o 6,.o 7] rfl (by decide+kernel) rfl (fun K hK=>?_));(repeat (first |(refine wo rfl (fun k hk=>?_);simp(disch:=omega) only[go_sem,ξ,ζ];apply hk;clear hk k) |refine wkt rfl ?_ |with_reducible refine wk0 ?_ |with_reducible refine ao ?_ |with_reducible refine aj ?_ wt_no |with_reducible refine ak ?_)))
      refine cN rfl rfl rfl rfl (by exact kS) ?_;rintro v2 h2 st2 rfl;(repeat (first |(refine wo rfl (fun k hk=>?_);simp(disch:=omega) only[go_sem,ξ,ζ];apply hk;clear hk k) |refine wkt rfl ?_ |with_reducible refine wk0 ?_ |with_reducible refine ao ?_ |with_reducible refine aj ?_ wt_no |with_reducible refine ak ?_))
      ((try (simp(disch:=omega) only[go_sem,ξ,ζ]));apply hK;clear hK;(try clear K);(try dsimp only[ag,qs]));(repeat (first |((first |refine rg rfl rfl (fun K hK=>?_) |refine rd [.o 0,.o 1,.o 3,.o 4,.o 2,.o 5,.o 6,.o 7] rfl (by decide+kernel) rfl (fun K hK=>?_));(repeat (first |(refine wo rfl (fun k hk=>?_);simp(disch:=omega) only[go_sem,ξ,ζ];apply hk;clear hk k) |refine wkt rfl ?_));(try refine wk0 ?_);apply hK;clear hK K;(try dsimp only[ag,qs,qb])) |((first |refine ae ?_ |refine ac ?_);simp(disch:=decide) only[qs,qb,if_true,if_false,reduceIte]) |refine ah rfl (fun K hK=>?_) |refine ct rfl ?_ |((first |refine hK _ _ ?_ |(clear hK;refine hK _ _ ?_) |(clear hK;clear hK;refine hK _ _ ?_));clear hK;(try clear K))))
      (first |refine AWP_t (.seg [.o 1,.o 2] (.alt 0 (.seg [.o 3,.o 4,.o 5,.o 6,.o 7] (.alt 8 (.alt 9 .done .no) .no)) (.alt 8 (.alt 0 (.seg [.o 3,.o 4,.o 5,.o 6,.o 7] (.alt 9 .done .no)) .no) .no))) (by decide+kernel) rfl (fun K hK=>?_) |refine mR (.seg [.o 1,.o 2] (.alt 0 (.seg [.o 3,.o 4,.o 5,.o 6,.o 7] (.alt 8 (.alt 9 .done .no) .no)) (.alt 8 (.alt 0 (.seg [.o 3,.o 4,.o 5,.o 6,.o 7] (.alt 9 .done .no)) .no) .no))) (by decide+kernel) rfl (fun K hK=>?_))
      have rest:∀(b3:Bool) (xa:Option Addr) (xl xc:Nat) (ya:Option Addr) (yl yc:Nat) (h':PH) (S:AS) [Le h0 h'],Fr h' (.agg #[.bool b3,.slice xa xl xc,.slice ya yl yc]) ((0:Int):Rat)→
        S.le ⟨[(1,.p 0 0),(2,.p 1 0),(5,.p 2 0)],[[.bool b1,.slice a1 m1 c1,.slice a2 m2 c2,.bool b2,.slice a3 m3 c3,.slice a4 m4 c4,.bool false,.bool false,.bool false],[.bool false,.slice none 0 0,.slice none 0 0,.bool false,.slice none 0 0,.slice none 0 0,.bool false,.bool false,.bool false],[.bool b3,.slice xa xl xc,.slice ya yl yc,.bool false,.slice none 0 0,.slice none 0 0,.bool false,.bool false,.bool false]]⟩→K S h':=by
       intro b3 xa xl xc ya yl yc h' S _ f3 hS
       refine hK _ _ (fq _ hS ?_);clear hK K
       (repeat (first |((first |refine rg rfl rfl (fun K hK=>?_) |refine rd [.o 0,.o 1,.o 3,.o 4,.o 2,.o 5,.o 6,.o 7] rfl (by decide+kernel) rfl (fun K hK=>?_));(repeat (first |(refine wo rfl (fun k hk=>?_);simp(disch:=omega) only[go_sem,ξ,ζ];apply hk;clear hk k) |refine wkt rfl ?_));(try refine wk0 ?_);apply hK;clear hK K;(try dsimp only[ag,qs,qb])) |((first |refine ae ?_ |refine ac ?_);simp(disch:=decide) only[qs,qb,if_true,if_false,reduceIte]) |refine ah rfl (fun K hK=>?_) |refine ct rfl ?_ |((first |refine hK _ _ ?_ |(clear hK;refine hK _ _ ?_) |(clear hK;clear hK;refine hK _ _ ?_));clear hK;(try clear K))));((first |refine rg rfl rfl (fun K hK=>?_) |refine rd [.o 0,.o 1,.o 3,.o 4,.o 2,.o 5,.o 6,.o 7] rfl (by decide+kernel) rfl (fun K hK=>?_));(repeat (first |(refine wo rfl (fun k hk=>?_);simp(disch:=omega) only[go_sem,ξ,ζ];apply hk;clear hk k) |refine wkt rfl ?_ |with_reducible refine wk0 ?_ |with_reducible refine ao ?_ |with_reducible refine aj ?_ wt_no |with_reducible refine ak ?_)))
       refine cN rfl rfl rfl rfl (by exact kf (e1.num.to (h':=h'))) ?_;rintro v4 h4 _ f4;obtain⟨v4_0,v4_1,v4_2,v4_3,v4_4,v4_5,v4_6,rfl,f4⟩:=f4.sa;(repeat (first |(refine wo rfl (fun k hk=>?_);simp(disch:=omega) only[go_sem,ξ,ζ];apply hk;clear hk k) |refine wkt rfl ?_ |with_reducible refine wk0 ?_ |with_reducible refine ao ?_ |with_reducible refine aj ?_ wt_no |with_reducible refine ak ?_))
       refine cN rfl rfl rfl rfl (by exact cE f4 (e2.num.to (h':=h4)) (by rw[cz];exact up36 (lx.1 _ rfl)) (up36 (lx.2 _ rfl))) ?_;rintro v5 h5 _ f5;obtain⟨v5_0,v5_1,v5_2,v5_3,v5_4,v5_5,v5_6,rfl,f5⟩:=f5.sa;(repeat (first |(refine wo rfl (fun k hk=>?_);simp(disch:=omega) only[go_sem,ξ,ζ];apply hk;clear hk k) |refine wkt rfl ?_ |with_reducible refine wk0 ?_ |with_reducible refine ao ?_ |with_reducible refine aj ?_ wt_no |with_reducible refine ak ?_))
       ((try (simp(disch:=omega) only[go_sem,ξ,ζ]));apply hK;clear hK;(try clear K);(try dsimp only[ag,qs]));(repeat (first |((first |refine rg rfl rfl (fun K hK=>?_) |refine rd [.o 0,.o 1,.o 3,.o 4,.o 2,.o 5,.o 6,.o 7] rfl (by decide+kernel) rfl (fun K hK=>?_));(repeat (first |(refine wo rfl (fun k hk=>?_);simp(disch:=omega) only[go_sem,ξ,ζ];apply hk;clear hk k) |refine wkt rfl ?_));(try refine wk0 ?_);apply hK;clear hK K;(try dsimp only[ag,qs,qb])) |((first |refine ae ?_ |refine ac ?_);simp(disch:=decide) only[qs,qb,if_true,if_false,reduceIte]) |refine ah rfl (fun K hK=>?_) |refine ct rfl ?_ |((first |refine hK _ _ ?_ |(clear hK;refine hK _ _ ?_) |(clear hK;clear hK;refine hK _ _ ?_));clear hK;(try clear K))))
       refine ai ?_;simp(disch:=omega) only[go_sem,ξ,ζ]
       exact⟨_,_,_,_,_,_,rfl,En.of f3.to,(En.of f5).to⟩
      clear hK
      (repeat (first |(refine wo rfl (fun k hk=>?_);simp(disch:=omega) only[go_sem,ξ,ζ];apply hk;clear hk k) |refine wkt rfl ?_ |with_reducible refine wk0 ?_ |with_reducible refine ao ?_ |with_reducible refine aj ?_ wt_no |with_reducible refine ak ?_))
      refine aj ?_ (aj ?_ wt_no)
      ·refine cN rfl rfl rfl rfl (by exact cB (n:=0) (by decide) (by decide)) ?_;rintro v3 h3 _ f3;obtain⟨v3_0,v3_1,v3_2,v3_3,v3_4,v3_5,v3_6,rfl,f3⟩:=f3.sa;(repeat (first |(refine wo rfl (fun k hk=>?_);simp(disch:=omega) only[go_sem,ξ,ζ];apply hk;clear hk k) |refine wkt rfl ?_ |with_reducible refine wk0 ?_ |with_reducible refine ao ?_ |with_reducible refine aj ?_ wt_no |with_reducible refine ak ?_))
       refine rest _ _ _ _ _ _ _ _ _ f3 ?_
       simp(disch:=omega) only[go_sem,ξ,ζ,true_or]
      ·(repeat (first |(refine wo rfl (fun k hk=>?_);simp(disch:=omega) only[go_sem,ξ,ζ];apply hk;clear hk k) |refine wkt rfl ?_ |with_reducible refine wk0 ?_ |with_reducible refine ao ?_ |with_reducible refine aj ?_ wt_no |with_reducible refine ak ?_))
       refine cN rfl rfl rfl rfl (by exact cB (n:=0) (by decide) (by decide)) ?_;rintro v3 h3 _ f3;obtain⟨v3_0,v3_1,v3_2,v3_3,v3_4,v3_5,v3_6,rfl,f3⟩:=f3.sa;(repeat (first |(refine wo rfl (fun k hk=>?_);simp(disch:=omega) only[go_sem,ξ,ζ];apply hk;clear hk k) |refine wkt rfl ?_ |with_reducible refine wk0 ?_ |with_reducible refine ao ?_ |with_reducible refine aj ?_ wt_no |with_reducible refine ak ?_))
       refine rest _ _ _ _ _ _ _ _ _ f3 ?_
       simp(disch:=omega) only[go_sem,ξ,ζ,true_or]
theorem wK {h0 h:PH} [Le h0 h] {v:Value} {x:RI} (hv:Iv h0 v x):Spec mach 101 #[v] h (fun r h'=>Ir h' r (x.fin (.ok x.set.size))) NP:=by
 have hv0:=hv
 obtain⟨a1,m1,c1,a2,m2,c2,a3,m3,c3,a4,m4,c4,rfl,_,_⟩:=hv.sa
 refine Spec.enter (args:=[_]) (n:=8) Tryz.func101 rfl (by kernel_rfl) rfl (by simp) [.cell 2 35,.tmp 3] rfl (fun C _=>?_)
 repeat (first |(refine wo rfl (fun k hk=>?_);simp(disch:=omega) only[go_sem,ξ,ζ];apply hk;clear hk k) |refine wkt rfl ?_ |refine wk0 ?_ |refine rg rfl rfl (fun K hK=>?_) |((first |refine ae ?_ |refine ac ?_);simp(disch:=decide) only[qs,qb,if_true,if_false,reduceIte]) |refine ah rfl (fun K hK=>?_) |refine ct rfl ?_ |((try simp(disch:=omega) only[go_sem,ξ,ζ]);(first |apply hK |(clear hK;apply hK) |(clear hK;clear hK;apply hK));clear hK;(try clear K);(try dsimp only[ag,qs,qb])))
 refine cN rfl rfl rfl rfl (by exact jX hv0 (fun g h' _ s hs=>Does.mk (Abs1 hs.sn (RI.le30 g)))) ?_;rintro r3 h3 st3 hr3;obtain⟨_,_,_,_,_,_,_,_,_,_,_,_,_,_,_,_,_,rfl,hr3⟩:=hr3.sa;(repeat (first |(refine wo rfl (fun k hk=>?_);simp(disch:=omega) only[go_sem,ξ,ζ];apply hk;clear hk k) |refine wkt rfl ?_));(try refine wk0 ?_)
 (try (simp(disch:=omega) only[go_sem,ξ,ζ]));apply hK;clear hK;(try clear K);(try dsimp only[ag,qs])
 refine ai ?_;simp(disch:=omega) only[go_sem,ξ,ζ]
 exact hr3
def NS.fin:NS→Bool
 |.e=>true
 |.i a b=>!a.isNone && !b.isNone
def RI.bo (x:RI) (b:Bool):Except Int Bool:=bif x.big then .error 1 else .ok b
theorem IsEmpty1 {h0 h:PH} [Le h0 h] {v:Value} {x:RI} {b1:Nat} {cs:List Value} (hv:Iv h0 v x) (hc:v=.agg cs.toArray) (hl:cs.length=8) (hb1:h b1=some cs.toArray):
  Bd 46 #[.pointer (some ⟨b1,0,none⟩)] h (x.bo x.set.void):=by
 subst hc
 unfold RI.bo
 cases g:x.big with
 | true=>
  dsimp only[cond_true]
  refine Spec.enter (args:=[_]) (n:=5) Tryz.func46 rfl (by kernel_rfl) rfl (by simp) [.tmp 1] rfl (fun C _=>?_)
  repeat (first |(refine wo rfl (fun k hk=>?_);simp(disch:=omega) only[go_sem,ξ,ζ];apply hk;clear hk k) |refine wkt rfl ?_ |refine wk0 ?_ |refine rg rfl rfl (fun K hK=>?_) |((first |refine ae ?_ |refine ac ?_);simp(disch:=decide) only[qs,qb,if_true,if_false,reduceIte]) |refine ah rfl (fun K hK=>?_) |refine ct rfl ?_ |((try simp(disch:=omega) only[go_sem,ξ,ζ]);(first |apply hK |(clear hK;apply hK) |(clear hK;clear hK;apply hK));clear hK;(try clear K);(try dsimp only[ag,qs,qb])))
  refine wk (fun k hk=>?_);simp(disch:=omega) only[go_sem,ξ,ζ];refine⟨cs,hl,fG hb1,?_⟩;apply hk;clear hk k;(repeat (first |(refine wo rfl (fun k hk=>?_);simp(disch:=omega) only[go_sem,ξ,ζ];apply hk;clear hk k) |refine wkt rfl ?_));(try refine wk0 ?_)
  exact cF rfl rfl rfl rfl (by exact fF hv g) (fun _ _ h=>h)
 | false=>
  dsimp only[cond_false]
  have kR:=fun {h} [Le h0 h]=>dK (h:=h) hv g
  generalize x.set=s at*
  cases s with
  | e=>
   refine Spec.enter (args:=[_]) (n:=5) Tryz.func46 rfl (by kernel_rfl) rfl (by simp) [.tmp 1] rfl (fun C _=>?_)
   repeat (first |(refine wo rfl (fun k hk=>?_);simp(disch:=omega) only[go_sem,ξ,ζ];apply hk;clear hk k) |refine wkt rfl ?_ |refine wk0 ?_ |refine rg rfl rfl (fun K hK=>?_) |((first |refine ae ?_ |refine ac ?_);simp(disch:=decide) only[qs,qb,if_true,if_false,reduceIte]) |refine ah rfl (fun K hK=>?_) |refine ct rfl ?_ |((try simp(disch:=omega) only[go_sem,ξ,ζ]);(first |apply hK |(clear hK;apply hK) |(clear hK;clear hK;apply hK));clear hK;(try clear K);(try dsimp only[ag,qs,qb])))
   refine wk (fun k hk=>?_);simp(disch:=omega) only[go_sem,ξ,ζ];refine⟨cs,hl,fG hb1,?_⟩;apply hk;clear hk k;(repeat (first |(refine wo rfl (fun k hk=>?_);simp(disch:=omega) only[go_sem,ξ,ζ];apply hk;clear hk k) |refine wkt rfl ?_));(try refine wk0 ?_)
   refine cN rfl rfl rfl rfl (by exact kR) ?_;rintro s1 h1 st1 hs1;obtain⟨_,_,_,_,_,_,_,_,_,_,_,_,_,_,_,_,rfl,hs1⟩:=hs1.ee
   repeat (first |(refine wo rfl (fun k hk=>?_);simp(disch:=omega) only[go_sem,ξ,ζ];apply hk;clear hk k) |refine wkt rfl ?_ |refine wk0 ?_ |refine rg rfl rfl (fun K hK=>?_) |((first |refine ae ?_ |refine ac ?_);simp(disch:=decide) only[qs,qb,if_true,if_false,reduceIte]) |refine ah rfl (fun K hK=>?_) |refine ct rfl ?_ |((try simp(disch:=omega) only[go_sem,ξ,ζ]);(first |apply hK |(clear hK;apply hK) |(clear hK;clear hK;apply hK));clear hK;(try clear K);(try dsimp only[ag,qs,qb])))
   refine ai ?_;simp(disch:=omega) only[go_sem,ξ,ζ]
   all_goals rfl
  | i a b=>
   have kR:=fun {h} [Le h0 h]=>(kR (h:=h)).mono (R':=fun v h'=>Sn h' v (.i a b)) (E':=NP) (fun _ _ _ k=>k) (fun _ _ _ k=>k)
   cases a<;>cases b<;>
   ·refine Spec.enter (args:=[_]) (n:=5) Tryz.func46 rfl (by kernel_rfl) rfl (by simp) [.tmp 1] rfl (fun C _=>?_)
    repeat (first |(refine wo rfl (fun k hk=>?_);simp(disch:=omega) only[go_sem,ξ,ζ];apply hk;clear hk k) |refine wkt rfl ?_ |refine wk0 ?_ |refine rg rfl rfl (fun K hK=>?_) |((first |refine ae ?_ |refine ac ?_);simp(disch:=decide) only[qs,qb,if_true,if_false,reduceIte]) |refine ah rfl (fun K hK=>?_) |refine ct rfl ?_ |((try simp(disch:=omega) only[go_sem,ξ,ζ]);(first |apply hK |(clear hK;apply hK) |(clear hK;clear hK;apply hK));clear hK;(try clear K);(try dsimp only[ag,qs,qb])))
    refine wk (fun k hk=>?_);simp(disch:=omega) only[go_sem,ξ,ζ];refine⟨cs,hl,fG hb1,?_⟩;apply hk;clear hk k;(repeat (first |(refine wo rfl (fun k hk=>?_);simp(disch:=omega) only[go_sem,ξ,ζ];apply hk;clear hk k) |refine wkt rfl ?_));(try refine wk0 ?_)
    refine cN rfl rfl rfl rfl (by exact kR) ?_;rintro s1 h1 st1 hs1;obtain⟨_,_,_,_,_,_,_,_,_,_,_,_,_,_,rfl,e1,e2⟩:=hs1.ie;(repeat (first |(refine wo rfl (fun k hk=>?_);simp(disch:=omega) only[go_sem,ξ,ζ];apply hk;clear hk k) |refine wkt rfl ?_));(try refine wk0 ?_)
    (try (simp(disch:=omega) only[go_sem,ξ,ζ]));apply hK;clear hK;(try clear K);(try dsimp only[ag,qs])
    dsimp only[Option.isNone]
    repeat (first |(refine wo rfl (fun k hk=>?_);simp(disch:=omega) only[go_sem,ξ,ζ];apply hk;clear hk k) |refine wkt rfl ?_ |refine wk0 ?_ |refine rg rfl rfl (fun K hK=>?_) |((first |refine ae ?_ |refine ac ?_);simp(disch:=decide) only[qs,qb,if_true,if_false,reduceIte]) |refine ah rfl (fun K hK=>?_) |refine ct rfl ?_ |((try simp(disch:=omega) only[go_sem,ξ,ζ]);(first |apply hK |(clear hK;apply hK) |(clear hK;clear hK;apply hK));clear hK;(try clear K);(try dsimp only[ag,qs,qb])))
    refine ai ?_;simp(disch:=omega) only[go_sem,ξ,ζ]
    all_goals rfl
theorem sI {h0 h:PH} [Le h0 h] {v:Value} {x:RI} (hv:Iv h0 v x):Spec mach 19 #[v] h (fun r _=>Br r (x.bo x.set.void)) NP:=by
 have hv0:=hv
 obtain⟨a1,m1,c1,a2,m2,c2,a3,m3,c3,a4,m4,c4,rfl,_,_⟩:=hv.sa
 refine Spec.enter (args:=[_]) (n:=8) Tryz.func19 rfl (by kernel_rfl) rfl (by simp) [.tmp 2,.tmp 3] rfl (fun C _=>?_)
 repeat (first |(refine rg rfl rfl (fun K hK=>?_);(repeat (first |(refine wo rfl (fun k hk=>?_);simp(disch:=omega) only[go_sem,ξ,ζ];apply hk;clear hk k) |refine wkt rfl ?_));(try refine wk0 ?_);apply hK;clear hK K;(try dsimp only[ag,qs,qb])) |((first |refine ae ?_ |refine ac ?_);simp(disch:=decide) only[qs,qb,if_true,if_false,reduceIte]) |refine ah rfl (fun K hK=>?_) |refine ct rfl ?_ |((first |refine hK _ _ ?_ |(clear hK;refine hK _ _ ?_) |(clear hK;clear hK;refine hK _ _ ?_));clear hK;(try clear K)))
 refine fk [.p 0,.o 0,.o 1,.o 2,.o 3,.o 4,.o 5] rfl rfl (fun K hK=>?_);(repeat (first |(refine wo rfl (fun k hk=>?_);simp(disch:=omega) only[go_sem,ξ,ζ];apply hk;clear hk k) |refine wkt rfl ?_));(try refine wk0 ?_)
 refine wkp ?_;simp(disch:=omega) only[go_sem,ξ,ζ];intro b1 h1 st1 hb1;(repeat (first |(refine wo rfl (fun k hk=>?_);simp(disch:=omega) only[go_sem,ξ,ζ];apply hk;clear hk k) |refine wkt rfl ?_));(try refine wk0 ?_)
 have hb1:=hb1 (by simp)
 refine cN rfl rfl rfl rfl (by exact tU (IsEmpty1 (hv0.to (h':=h1)) rfl rfl hb1)) ?_;rintro r3 h3 st3 hr3;obtain⟨_,_,rfl,hr3⟩:=hr3.sa;(repeat (first |(refine wo rfl (fun k hk=>?_);simp(disch:=omega) only[go_sem,ξ,ζ];apply hk;clear hk k) |refine wkt rfl ?_));(try refine wk0 ?_)
 (try (simp(disch:=omega) only[go_sem,ξ,ζ]));apply hK;clear hK;(try clear K);(try dsimp only[ag,qs])
 refine ai ?_;simp(disch:=omega) only[go_sem,ξ,ζ]
 exact hr3
set_option maxHeartbeats 8000000
theorem OwnRat_spec {h0 h:PH} [Le h0 h] {v:Value} {neg:Bool} {n d:Nat} (hv:Rw h0 v neg n d):Spec mach 223 #[v] h (fun v h'=>Rw h' v neg n d) NP:=by
 obtain⟨a,c,xs,a',c',ys,rfl,hx,hy,rfl,rfl,lx,ly⟩:=hv
 have k1:=fun {h} [Le h0 h]=>CloneA (h:=h) hx (by omega)
 have k2:=fun {h} [Le h0 h]=>CloneA (h:=h) hy (by omega)
 refine Spec.go [(1,.o [0,1,2,3,5,6,4,7,8,9])] Tryz.func223 rfl rfl (by kernel_rfl) fun C _=>?_
 try simp(disch:=omega) only[go_sem,ξ,ζ]
 refine caN (by exact k1) ?_;rintro v1 h1 s1 ⟨_,_,rfl,q1⟩
 try simp(disch:=omega) only[go_sem,ξ,ζ]
 refine caN (by exact k2) ?_;rintro v2 h2 s2 ⟨_,_,rfl,q2⟩
 try simp(disch:=omega) only[go_sem,ξ,ζ]
 exact⟨_,_,_,_,_,_,rfl,q1.to,q2,rfl,rfl,lx,ly⟩
theorem Own_spec {h0 h:PH} [Le h0 h] {v:Value} {x:RI} (hv:Iv h0 v x):Spec mach 159 #[v] h (fun v h'=>Iv h' v x) NP:=by
 obtain⟨_,_,_,_,_,_,_,_,_,_,_,_,rfl,h1,h2⟩:=hv.sa
 have k1:=fun {h} [Le h0 h]=>OwnRat_spec (h:=h) h1
 have k2:=fun {h} [Le h0 h]=>OwnRat_spec (h:=h) h2
 refine Spec.go [(1,.o [0,1,3,4,6,7,8,9,2,5,10,11])] Tryz.func159 rfl rfl (by kernel_rfl) fun C _=>?_
 try simp(disch:=omega) only[go_sem,ξ,ζ]
 refine caN (by exact k1) ?_;rintro v1 h1 s1 q1;obtain⟨_,_,_,_,_,_,_,rfl,q1⟩:=q1.sa
 try simp(disch:=omega) only[go_sem,ξ,ζ]
 refine caN (by exact k2) ?_;rintro v2 h2 s2 q2;obtain⟨_,_,_,_,_,_,_,rfl,q2⟩:=q2.sa
 try simp(disch:=omega) only[go_sem,ξ,ζ]
 exact Iv.mk q1.to q2 _ _
abbrev Sd1:=ByteArray×RI
def Sv (h:PH) (v:Value) (s:Sd1):Prop:=∃b1 a1 m1 c1 a2 m2 c2 b2 a3 m3 c3 a4 m4 c4 l u,v=.agg #[.string s.1,.bool b1,.slice a1 m1 c1,.slice a2 m2 c2,.bool b2,.slice a3 m3 c3,.slice a4 m4 c4,.bool l,.bool u]∧Iv h (.agg #[.bool b1,.slice a1 m1 c1,.slice a2 m2 c2,.bool b2,.slice a3 m3 c3,.slice a4 m4 c4,.bool l,.bool u]) s.2
def Boxv (h:PH) (v:Value) (l:List Sd1):Prop:=∃a c,v=.slice a l.length c∧l.length≤2^30∧∀i s,l[i]?=some s→∃ad b1 a1 m1 c1 a2 m2 c2 b2 a3 m3 c3 a4 m4 c4 e u,a=some ad∧
 (∀j v,([.string s.1,.bool b1,.slice a1 m1 c1,.slice a2 m2 c2,.bool b2,.slice a3 m3 c3,.slice a4 m4 c4,.bool e,.bool u]:List Value)[j]?=some v→h.at ((ad.add (i*9)).add j)=some v)∧
 Iv h (.agg #[.bool b1,.slice a1 m1 c1,.slice a2 m2 c2,.bool b2,.slice a3 m3 c3,.slice a4 m4 c4,.bool e,.bool u]) s.2
theorem Boxv.to {h h':PH} {v:Value} {l:List Sd1} (r:Boxv h v l) [t:Le h h']:Boxv h' v l:=by
 obtain⟨a,c,rfl,hl,k⟩:=r
 refine⟨a,c,rfl,hl,fun i s hi=>?_⟩
 obtain⟨ad,b1,a1,m1,c1,a2,m2,c2,b2,a3,m3,c3,a4,m4,c4,e,u,h1,h2,h3⟩:=k i s hi
 exact⟨ad,b1,a1,m1,c1,a2,m2,c2,b2,a3,m3,c3,a4,m4,c4,e,u,h1,fun j v hj=>t.sub.at (h2 j v hj),h3.to⟩
theorem Boxv.sa {h:PH} {v:Value} {l:List Sd1} (r:Boxv h v l):∃a m c,v=.slice a m c:=let ⟨a,c,h1,_⟩:=r;⟨a,_,c,h1⟩
theorem add_1 {a:Addr} {n j:Nat}:({block:=(a.add n).block,off:=(a.add n).off+1}:Addr).add j=(a.add n).add (j+1):=by
 unfold Addr.add
 split<;>split<;>simp_all<;>omega
def fnd (l:List Sd1) (s:ByteArray):Option Nat:=l.findIdx? fun x=>x.1.toList == s.toList
theorem Index1 {h0 h:PH} [Le h0 h] {v:Value} {x:Sd1} {s:ByteArray} {b:Nat} (hv:Sv h0 v x) (hb:h b=some #[.string s]):Spec mach 94 #[v,.pointer (some ⟨b,0,none⟩)] h (fun r _=>r=.bool (x.1.toList == s.toList)) NP:=by
 obtain⟨_,_,_,_,_,_,_,_,_,_,_,_,_,_,_,_,rfl,_⟩:=hv
 refine Spec.go [] Tryz.func94 rfl rfl (by kernel_rfl) fun C _=>?_
 try simp(disch:=omega) only[go_sem,ξ,ζ]
 refine aE (aK hb) ?_
 try simp(disch:=omega) only[go_sem,ξ,ζ]
theorem IndexFunc_spec {h0 h:PH} [Le h0 h] {v:Value} {l:List Sd1} {s:ByteArray} {b:Nat} (hv:Boxv h0 v l) (hb:h0 b=some #[.string s]):Spec mach 93 #[v,.func (.func 94) #[] #[.pointer (some ⟨b,0,none⟩)]] h (fun r _=>r=.int .i64 (match fnd l s with |some i=>(i:Int) |none=>-1)) NP:=by
 obtain⟨a,c,rfl,hl,k⟩:=hv
 refine Spec.go [] Tryz.func93 rfl rfl (by kernel_rfl) fun C _=>?_
 try simp(disch:=omega) only[go_sem,ξ,ζ]
 refine lp [] (fun i:Nat=>⟨[(0,.v (.slice a l.length c)),(1,.v (.func (.func 94) #[] #[.pointer (some ⟨b,0,none⟩)])),(7,.v (.int .i64 l.length)),(8,.v (.int .i64 i))],[]⟩) (fun i h'=>Le h0 h'∧i≤l.length∧∀j x,j < i→l[j]?=some x→(x.1.toList == s.toList)=false) (fun i=>l.length - i) 0 ?_ ⟨inferInstance,qBh _,fun j w hj=>absurd hj (by omega)⟩ (by kernel_rfl) ?_
 ·try simp(disch:=omega) only[go_sem,ξ,ζ]
  all_goals rfl
 rintro i h2 ⟨le2,hi,hj⟩
 by_cases hlt:(i:Int) < l.length
 ·obtain⟨x,hx⟩:∃x,l[i]?=some x:=⟨_,List.getElem?_eq_getElem (by omega)⟩
  obtain⟨ad,b1,a1,m1,c1,a2,m2,c2,b2,a3,m3,c3,a4,m4,c4,e,u,rfl,hat,hiv⟩:=k i x hx
  try simp(disch:=omega) only[go_sem,ξ,ζ,hlt,decide_true]
  refine Exists.intro [_,_,_,_,_,_,_,_,_] (And.intro rfl (And.intro (fun j v hj=>le2.sub.at (hat j v hj)) ?_))
  try simp(disch:=omega) only[go_sem,ξ,ζ]
  refine caN (by exact Index1 (h0:=h2) ⟨_,_,_,_,_,_,_,_,_,_,_,_,_,_,_,_,rfl,hiv.to⟩ (le2.sub _ _ hb)) ?_;rintro v3 h3 s3 rfl
  try simp(disch:=omega) only[go_sem,ξ,ζ]
  cases e:(x.1.toList == s.toList) with
  | true=>
   have ef:fnd l s=some i:=by
    unfold fnd
    refine List.findIdx?_eq_some_iff_getElem.2 ⟨by omega,?_,fun j k=>?_⟩
    ·rw[List.getElem?_eq_getElem (by omega)] at hx
     cases hx;exact e
    ·have:=hj j _ k (List.getElem?_eq_getElem (by omega))
     simpa using this
   rw[ef]
   try simp(disch:=omega) only[go_sem,ξ,ζ,e]
   all_goals rfl
  | false=>
   try simp(disch:=omega) only[go_sem,ξ,ζ,e]
   dsimp only[lpE];refine⟨i+1,?_,⟨inferInstance,by omega,fun j y k hy=>?_⟩,by omega⟩
   ·try simp(disch:=omega) only[go_sem,ξ,ζ]
    all_goals rfl
   ·rcases qBj j i with g |g
    ·exact hj j y g hy
    ·obtain rfl:j=i:=by omega
     rw[hx] at hy
     cases hy
     exact e
 ·have ef:fnd l s=none:=by
   unfold fnd
   refine List.findIdx?_eq_none_iff.2 fun x hx=>?_
   obtain⟨j,h⟩:=List.getElem?_of_mem hx
   have:=(List.getElem?_eq_some_iff.1 h).1
   exact hj j x (by omega) h
  rw[ef]
  try simp(disch:=omega) only[go_sem,ξ,ζ,hlt,decide_false]
  all_goals rfl
theorem Index_spec {h0 h:PH} [Le h0 h] {v:Value} {l:List Sd1} {s:ByteArray} (hv:Boxv h0 v l):Spec mach 54 #[v,.string s] h (fun r _=>r=.int .i64 (match fnd l s with |some i=>(i:Int) |none=>-1)) NP:=by
 have hv0:=hv
 obtain⟨_,_,_,rfl⟩:=hv.sa
 refine Spec.go [(1,.t (.p 0 (.s [0,1,2,3] .d)))] Tryz.func54 rfl rfl (by kernel_rfl) fun C _=>?_
 try simp(disch:=omega) only[go_sem,ξ,ζ]
 intro b h1 st1 hb
 try simp(disch:=omega) only[go_sem,ξ,ζ]
 have hb:=hb (by simp)
 refine caN (by exact IndexFunc_spec (h0:=h1) hv0.to hb) ?_;rintro v1 h2 s2 rfl
 try simp(disch:=omega) only[go_sem,ξ,ζ]
def Fnd (h:PH) (r:Value) (l:List Sd1) (s:ByteArray):Prop:=match fnd l s with
 |none=>r=.tuple #[zIv,.bool false]
 |some i=>∃v x,l[i]?=some x∧r=.tuple #[v,.bool true]∧Iv h v x.2
theorem BFind_spec {h0 h:PH} [Le h0 h] {v:Value} {l:List Sd1} {s:ByteArray} (hv:Boxv h0 v l):Spec mach 96 #[v,.string s] h (fun r h'=>Fnd h' r l s) NP:=by
 have kI:=fun {h} [Le h0 h]=>Index_spec (h:=h) (s:=s) hv
 unfold Fnd
 obtain⟨a,c,rfl,hl,k⟩:=hv
 cases e:fnd l s with
 | none=>
  rw[e] at kI
  refine Spec.go [] Tryz.func96 rfl rfl (by kernel_rfl) fun C _=>?_
  try simp(disch:=omega) only[go_sem,ξ,ζ]
  refine caN (by exact kI) ?_;rintro v1 h1 s1 rfl
  try simp(disch:=omega) only[go_sem,ξ,ζ]
  all_goals rfl
 | some i=>
  rw[e] at kI
  have hi:i < l.length:=(List.findIdx?_eq_some_iff_getElem.1 e).1
  obtain⟨x,hx⟩:∃x,l[i]?=some x:=⟨_,List.getElem?_eq_getElem hi⟩
  obtain⟨ad,b1,a1,m1,c1,a2,m2,c2,b2,a3,m3,c3,a4,m4,c4,f,u,rfl,hat,hiv⟩:=k i x hx
  refine Spec.go [] Tryz.func96 rfl rfl (by kernel_rfl) fun C _=>?_
  try simp(disch:=omega) only[go_sem,ξ,ζ]
  refine caN (by exact kI) ?_;rintro v1 h1 s1 rfl
  try simp(disch:=omega) only[go_sem,ξ,ζ]
  refine Exists.intro [_,_,_,_,_,_,_,_] (And.intro rfl (And.intro (fun j v hj=>by rw[add_1];exact s1.sub.at ((inferInstance:Le h0 h).sub.at (hat (j+1) v hj))) ?_))
  try simp(disch:=omega) only[go_sem,ξ,ζ]
  refine caN (by exact Own_spec (hiv.to (h':=h1))) ?_;rintro v2 h2 s2 q2;obtain⟨_,_,_,_,_,_,_,_,_,_,_,_,rfl,q3⟩:=q2.sa
  try simp(disch:=omega) only[go_sem,ξ,ζ]
  exact⟨_,_,hx,rfl,q2⟩
open Go.Proofs Go.Proofs.YtgmcchhklbeckaaGreatDoor
open Go.ChangeShapes Go.WideShapes Go.ChangeAt Go.RowKit
theorem flSi:flds Tryz.prog 53=some [(9,0),(35,1)]:=by kernel_rfl
theorem unSi:Tryz.prog.underlying 28=some (.slice 53):=by kernel_rfl
theorem unSt:Tryz.prog.underlying 9=some .string:=by kernel_rfl
theorem ceSt:Tryz.prog.cellsOf 9=1:=by kernel_rfl
theorem ceSi:Tryz.prog.cellsOf 53=9:=by kernel_rfl
section
variable {H:Type} {enc:TypeId×Value→H} {W:World} {sp:Nat→Bool} {held:Bool}
theorem open_side {fuel:Nat} {cs:List Value} {x:DataW H×List MemPlace} (h:DataW.trod enc Tryz.prog W 0 sp held fuel 53 cs=some x) {B:Nat} (hB:B≤1048576) (hk:Rows.uptoBulk x.1≤B):
  ∃ (s:ByteArray) (y:RI) (a1:Option Addr) (m1 c1:Nat) (a2:Option Addr) (m2 c2:Nat) (a3:Option Addr) (m3 c3:Nat) (a4:Option Addr) (m4 c4:Nat),cs=[.string s,.bool y.n1,.slice a1 m1 c1,.slice a2 m2 c2,.bool y.n2,.slice a3 m3 c3,.slice a4 m4 c4,.bool y.l,.bool y.u]∧
   Iv (pub W) (.agg #[.bool y.n1,.slice a1 m1 c1,.slice a2 m2 c2,.bool y.n2,.slice a3 m3 c3,.slice a4 m4 c4,.bool y.l,.bool y.u]) y:=by
 obtain⟨fs,hu,hf⟩:=flds_some flSi
 obtain⟨xs,n,rfl,rfl,hl,hsz,hg⟩:=DataW.trod_struct hu h
 rw[ceSi] at hl
 have hfs:fs.size=2:=by
  have:=congrArg List.length hf
  simpa using this
 match cs,hl with
 |[c0,c1,c2,c3,c4,c5,c6,c7,c8],_=>
 have get:∀(i t o:Nat),(fs.toList.map fun f=>(f.type,f.offset))[i]?=some (t,o)→∃f:Field,fs[i]?=some f∧f.type=t∧f.offset=o:=by
  intro i t o hi
  rw[List.getElem?_map,Option.map_eq_some_iff] at hi
  obtain⟨f,h1,h2⟩:=hi
  cases h2
  exact⟨f,by simpa using h1,rfl,rfl⟩
 obtain⟨f0,k0,e0,o0⟩:=get 0 9 0 (by rw[hf];rfl)
 obtain⟨f1,k1,e1,o1⟩:=get 1 35 1 (by rw[hf];rfl)
 have g0:=hg 0 f0 k0
 have g1:=hg 1 f1 k1
 rw[e0,o0,ceSt] at g0
 rw[e1,o1,ce26] at g1
 rw[hfs] at hsz
 match xs,hsz with
 |[y0,y1],_=>
 simp only[List.drop_zero,List.take_succ_cons,List.take_zero,List.drop_succ_cons,List.getElem?_cons_zero,List.getElem?_cons_succ] at g0 g1
 simp only[Rows.uptoBulk,List.map_cons,List.map_nil,Rows.uptoBulkAll] at hk
 obtain⟨s,e0,_⟩:=DataW.trod_string unSt g0
 obtain⟨y,hy⟩:=open_iv g1 hB (by omega)
 obtain⟨a1,m1,c1',a2,m2,c2',a3,m3,c3',a4,m4,c4',e2,_,_⟩:=hy.sa
 cases e0
 simp only[Value.agg.injEq,Array.mk.injEq,List.cons.injEq,and_true] at e2
 obtain⟨rfl,rfl,rfl,rfl,rfl,rfl,rfl,rfl⟩:=e2
 exact⟨s,y,a1,m1,c1',a2,m2,c2',a3,m3,c3',a4,m4,c4',rfl,hy⟩
theorem list_of {α:Type} (P:Nat→α→Prop):∀n,(∀i,i < n→∃s,P i s)→∃l:List α,l.length=n∧∀i s,l[i]?=some s→P i s:=by
 intro n
 induction n with
 |zero=>exact fun _=>⟨[],rfl,fun i s h=>by simp at h⟩
 | succ n ih=>
  intro h
  obtain⟨l,hl,k⟩:=ih fun i hi=>h i (by omega)
  obtain⟨s,hs⟩:=h n (by omega)
  refine⟨l ++[s],by simp[hl],fun i t hi=>?_⟩
  rcases qBj i l.length with g |g
  ·rw[List.getElem?_append_left g] at hi;exact k i t hi
  ·have:i < (l ++[s]).length:=(List.getElem?_eq_some_iff.1 hi).1
   simp only[qAp,List.length_singleton] at this
   obtain rfl:i=l.length:=by omega
   rw[List.getElem?_append_right (η _),Nat.sub_self] at hi
   cases hi;rw[hl];exact hs
theorem open_box {fuel:Nat} {v:Value} {x:DataW H×List MemPlace} (h:DataW.trod enc Tryz.prog W 0 sp held fuel 28 [v]=some x) {B:Nat} (hB:B≤1048576) (hk:Rows.uptoBulk x.1≤B):
  ∃l:List Sd1,Boxv (pub W) v l:=by
 rcases DataW.trod_slice unSi h with⟨e,_⟩ |⟨a,len,cap,elems,rest,n,_,e,rfl,_,hl,hm,hlen,hel,_,_⟩
 ·cases e
  exact⟨[],none,0,rfl,by simp,fun i s h=>by simp at h⟩
 cases e
 simp only[Rows.uptoBulk] at hk
 have b1:=bulk_len (H:=H) (elems.map (·.1))
 rw[List.length_map,hlen] at b1
 obtain⟨l,hll,hP⟩:=list_of (fun i (s:Sd1)=>∃(a1:Option Addr) (m1 c1:Nat) (a2:Option Addr) (m2 c2:Nat) (a3:Option Addr) (m3 c3:Nat) (a4:Option Addr) (m4 c4:Nat),
   (∀j v,([.string s.1,.bool s.2.n1,.slice a1 m1 c1,.slice a2 m2 c2,.bool s.2.n2,.slice a3 m3 c3,.slice a4 m4 c4,.bool s.2.l,.bool s.2.u]:List Value)[j]?=some v→(pub W).at ((a.add (i*9)).add j)=some v)∧
   Iv (pub W) (.agg #[.bool s.2.n1,.slice a1 m1 c1,.slice a2 m2 c2,.bool s.2.n2,.slice a3 m3 c3,.slice a4 m4 c4,.bool s.2.l,.bool s.2.u]) s.2) len fun i hi=>by
  have he:=hel i hi
  obtain⟨y,hy⟩:∃y,elems[i]?=some y:=⟨_,List.getElem?_eq_getElem (by omega)⟩
  rw[hy,Option.bind_eq_some_iff,ceSi] at he
  obtain⟨cs,hc,ht⟩:=he
  have hb:=bulk_mem (d:=y.1) (l:=elems.map (·.1)) (List.mem_map.2 ⟨y,List.mem_of_getElem? hy,rfl⟩)
  obtain⟨s,z,a1,m1,c1,a2,m2,c2,a3,m3,c3,a4,m4,c4,rfl,hz⟩:=open_side ht hB (by omega)
  have hc':=World.cells?_some hc
  refine⟨(s,z),a1,m1,c1,a2,m2,c2,a3,m3,c3,a4,m4,c4,fun j v hj=>?_,hz⟩
  have:j < 9:=(List.getElem?_eq_some_iff.1 hj).1
  rw[pub_at,hc'.2.2 j this]
  exact hj
 refine⟨l,some a,cap,by rw[hll],by omega,fun i s hi=>?_⟩
 obtain⟨a1,m1,c1,a2,m2,c2,a3,m3,c3,a4,m4,c4,q1,q2⟩:=hP i s hi
 exact⟨a,_,a1,m1,c1,a2,m2,c2,_,a3,m3,c3,a4,m4,c4,_,_,rfl,q1,q2⟩
end
namespace NS
def lo0:NS→Rat
 |.e=>0
 |.i a _=>a.getD 0
def hi0:NS→Rat
 |.e=>0
 |.i _ b=>b.getD 0
def loN:NS→Bool
 |.e=>false
 |.i a _=>a.isNone
def hiN:NS→Bool
 |.e=>false
 |.i _ b=>b.isNone
end NS
def Rr (h:PH) (v:Value) (x:NS):Prop:=∃b1 x1 y1 b2 x2 y2,v=.agg #[.bool b1,x1,y1,.bool b2,x2,y2,.bool x.loN,.bool x.hiN,.bool x.void]∧Qr h (.agg #[.bool b1,x1,y1]) x.lo0∧Qr h (.agg #[.bool b2,x2,y2]) x.hi0
theorem Rr.to {h h':PH} {v:Value} {x:NS} (r:Rr h v x) [Le h h']:Rr h' v x:=let ⟨a,b,c,d,e,f,h1,h2,h3⟩:=r;⟨a,b,c,d,e,f,h1,h2.to,h3.to⟩
theorem Rr.sa {h:PH} {v:Value} {x:NS} (r:Rr h v x):∃b1 a1 m1 c1 a2 m2 c2 b2 a3 m3 c3 a4 m4 c4,v=.agg #[.bool b1,.slice a1 m1 c1,.slice a2 m2 c2,.bool b2,.slice a3 m3 c3,.slice a4 m4 c4,.bool x.loN,.bool x.hiN,.bool x.void]∧
  Qr h (.agg #[.bool b1,.slice a1 m1 c1,.slice a2 m2 c2]) x.lo0∧Qr h (.agg #[.bool b2,.slice a3 m3 c3,.slice a4 m4 c4]) x.hi0:=by
 obtain⟨b1,x1,y1,b2,x2,y2,rfl,h1,h2⟩:=r
 obtain⟨_,_,_,_,_,_,_,e1,_⟩:=h1.sa
 obtain⟨_,_,_,_,_,_,_,e2,_⟩:=h2.sa
 simp only[Value.agg.injEq,Array.mk.injEq,List.cons.injEq,and_true] at e1 e2
 obtain⟨_,rfl,rfl⟩:=e1
 obtain⟨_,rfl,rfl⟩:=e2
 exact⟨_,_,_,_,_,_,_,_,_,_,_,_,_,_,rfl,h1,h2⟩
theorem HY:sz 0≤1:=by decide
theorem eZ {h0 h:PH} [Le h0 h] {v:Value} {x:RI} (hv:Iv h0 v x):Spec mach 34 #[v] h (fun r _=>r=.bool x.big) NP:=by
 obtain⟨a1,m1,c1,a2,m2,c2,a3,m3,c3,a4,m4,c4,rfl,hx,hy⟩:=hv.sa
 have k1:=fun {h} [Le h0 h]=>jJ (h:=h) hx
 have k2:=fun {h} [Le h0 h]=>jJ (h:=h) hy
 unfold RI.big
 obtain⟨l1,e1⟩:∃b,decide (lg x.n1 x.a1 x.d1)=b:=⟨_,rfl⟩
 obtain⟨l2,e2⟩:∃b,decide (lg x.n2 x.a2 x.d2)=b:=⟨_,rfl⟩
 rw[e1] at k1 ⊢
 rw[e2] at k2 ⊢
 cases l1 with
 | true=>
  refine Spec.go [] Tryz.func34 rfl rfl (by kernel_rfl) fun C _=>?_
  try simp(maxSteps:=999999) (disch:=omega) only[go_sem,ξ,ζ]
  refine caN (by exact k1) ?_;rintro v1 h1 s1 rfl
  try simp(maxSteps:=999999) (disch:=omega) only[go_sem,ξ,ζ]
  all_goals rfl
 | false=>
  refine Spec.go [] Tryz.func34 rfl rfl (by kernel_rfl) fun C _=>?_
  try simp(maxSteps:=999999) (disch:=omega) only[go_sem,ξ,ζ]
  refine caN (by exact k1) ?_;rintro v1 h1 s1 rfl
  try simp(maxSteps:=999999) (disch:=omega) only[go_sem,ξ,ζ]
  refine caN (by exact k2) ?_;rintro v2 h2 s2 rfl
  try simp(maxSteps:=999999) (disch:=omega) only[go_sem,ξ,ζ]
def R1 (h:PH) (r:Value):Out→Prop
 |.error e=>r=.tuple #[.agg #[.bool false,.slice none 0 0,.slice none 0 0,.bool false,.slice none 0 0,.slice none 0 0,.bool false,.bool false,.bool false],.int .i64 e]
 |.ok x=>∃u,r=.tuple #[u,.int .i64 0]∧Rr h u x
theorem e8 {h0 h:PH} [Le h0 h] {v:Value} {x:RI} {p:Int} (hv:Iv h0 v x) (g:x.big=true):Spec mach 141 #[v,.int .i64 p] h (fun r h'=>R1 h' r (.error 1)) NP:=by
 have hv0:=hv
 have kl:=fun {h} [Le h0 h]=>eZ (h:=h) hv
 rw[g] at kl
 obtain⟨a1,m1,c1,a2,m2,c2,a3,m3,c3,a4,m4,c4,rfl,hx,hy⟩:=hv.sa
 refine Spec.go [] Tryz.func141 rfl rfl (by kernel_rfl) fun C _=>?_
 try simp(maxSteps:=999999) (disch:=omega) only[go_sem,ξ,ζ]
 refine caN (by exact kl) ?_;rintro v1 h1 s1 rfl
 try simp(maxSteps:=999999) (disch:=omega) only[go_sem,ξ,ζ]
 all_goals rfl
theorem R1.err {h:PH} {r:Value} {e:Int} (k:R1 h r (.error e)):r=.tuple #[.agg #[.bool false,.slice none 0 0,.slice none 0 0,.bool false,.slice none 0 0,.slice none 0 0,.bool false,.bool false,.bool false],.int .i64 e]:=k
theorem R1.ok {h:PH} {r:Value} {x:NS} (k:R1 h r (.ok x)):∃b1 a1 m1 c1 a2 m2 c2 b2 a3 m3 c3 a4 m4 c4,r=.tuple #[.agg #[.bool b1,.slice a1 m1 c1,.slice a2 m2 c2,.bool b2,.slice a3 m3 c3,.slice a4 m4 c4,.bool x.loN,.bool x.hiN,.bool x.void],.int .i64 0]∧Rr h (.agg #[.bool b1,.slice a1 m1 c1,.slice a2 m2 c2,.bool b2,.slice a3 m3 c3,.slice a4 m4 c4,.bool x.loN,.bool x.hiN,.bool x.void]) x:=by
 obtain⟨u,rfl,k⟩:=k
 have k0:=k
 obtain⟨_,_,_,_,_,_,_,_,_,_,_,_,_,_,rfl,_,_⟩:=k.sa
 exact⟨_,_,_,_,_,_,_,_,_,_,_,_,_,_,rfl,k0⟩
def okS (l:List Sd1) (i:Nat):Bool:=match l[i]? with
 | some x=>nameB x.1 && (decide (i=0) || (match l[i - 1]? with
  |some y=>Op.bytesLess y.1.toList x.1.toList
  |none=>true)) && !x.2.big && !x.2.set.void
 |none=>true
def okB (l:List Sd1):Bool:=decide (l.length≤6) && (List.range l.length).all (okS l)
theorem okB_no {l:List Sd1} {i:Nat} (hi:i < l.length) (h:okS l i=false):okB l=false:=by
 unfold okB
 rw[Bool.and_eq_false_iff]
 right
 exact List.all_eq_false.2 ⟨i,List.mem_range.2 hi,by rw[h];decide⟩
theorem okB_yes {l:List Sd1} (hl:l.length≤6) (h:∀j,j < l.length→okS l j=true):okB l=true:=by
 unfold okB
 rw[decide_eq_true hl,Bool.true_and]
 exact qBd.2 fun j hj=>h j (List.mem_range.1 hj)
theorem BValid_spec {h0 h:PH} [Le h0 h] {v:Value} {l:List Sd1} (hv:Boxv h0 v l):Spec mach 8 #[v] h (fun r _=>r=.bool (okB l)) NP:=by
  obtain⟨a,c,rfl,hl,k⟩:=hv
  by_cases h6:(l.length:Int) > 6
  · have:okB l=false:=by unfold okB;rw[decide_eq_false (by omega)];rfl
    rw[this]
    refine Spec.go [] Tryz.func8 rfl rfl (by kernel_rfl) fun C _=>?_
    try simp(disch:=omega) only[go_sem,ξ,ζ,h6,decide_true]
  · refine Spec.go [] Tryz.func8 rfl rfl (by kernel_rfl) fun C _=>?_
    try simp(disch:=omega) only[go_sem,ξ,ζ,h6,decide_false]
    refine lp [] (fun i:Nat=>⟨[(0,.v (.slice a l.length c)),(10,.v (.slice a l.length c)),(11,.v (.int .i64 l.length)),(12,.v (.int .i64 i))],[]⟩) (fun i h'=>Le h0 h'∧i≤l.length∧∀j,j < i→okS l j=true) (fun i=>l.length - i) 0 ?_ ⟨inferInstance,qBh _,fun j hj=>absurd hj (by omega)⟩ (by kernel_rfl) ?_
    · try simp(disch:=omega) only[go_sem,ξ,ζ]
      all_goals rfl
    rintro i h2 ⟨le2,hi,hj⟩
    by_cases hlt:(i:Int) < l.length
    · obtain⟨x,hx⟩:∃x,l[i]?=some x:=⟨_,List.getElem?_eq_getElem (by omega)⟩
      obtain⟨ad,b1,a1,m1,c1,a2,m2,c2,b2,a3,m3,c3,a4,m4,c4,e,u,rfl,hat,hiv⟩:=k i x hx
      try simp(disch:=omega) only[go_sem,ξ,ζ,hlt,decide_true]
      refine Exists.intro [_,_,_,_,_,_,_,_,_] (And.intro rfl (And.intro (fun j v hj=>le2.sub.at (hat j v hj)) ?_))
      try simp(disch:=omega) only[go_sem,ξ,ζ]
      refine caN (by exact IsName_spec) ?_;rintro v3 h3 s3 rfl
      try simp(disch:=omega) only[go_sem,ξ,ζ]
      have big:x.2.big=true→okS l i=false:=fun g=>by unfold okS;rw[hx];simp[g]
      have voi:x.2.set.void=true→okS l i=false:=fun g=>by unfold okS;rw[hx];simp[g]
      have nam:nameB x.1=false→okS l i=false:=fun g=>by unfold okS;rw[hx];simp[g]
      have hi':i < l.length:=by omega
      cases hn:nameB x.1 with
      | false=>
        rw[okB_no hi' (nam hn)]
        try simp(disch:=omega) only[go_sem,ξ,ζ,hn]
      | true=>
        have kE:=fun {h} [Le h2 h]=>sI (h:=h) (hiv.to (h':=h2))
        unfold RI.bo at kE
        have nxt:(decide (i=0) || (match l[i - 1]? with |some y=>Op.bytesLess y.1.toList x.1.toList |none=>true))=true→x.2.big=false→x.2.set.void=false→okS l i=true:=fun g1 g2 g3=>by
          unfold okS;rw[hx]
          show(nameB x.1 && _ && _ && _)=true
          rw[hn,g1,g2,g3];rfl
        by_cases i0:(i:Int) > 0
        · obtain⟨y,hy⟩:∃y,l[i - 1]?=some y:=⟨_,List.getElem?_eq_getElem (by omega)⟩
          obtain⟨ad',_,_,_,_,_,_,_,_,_,_,_,_,_,_,_,_,ea,hat',_⟩:=k (i - 1) y hy
          cases ea
          have hyat:h0.at (ad.add ((i - 1)*9))=some (.string y.1):=hat' 0 _ rfl
          have ew:((i:Int) - 1).toNat=i - 1:=by omega
          try simp(disch:=omega) only[go_sem,ξ,ζ,hn,i0,decide_true,ew]
          refine aE ((inferInstance:Le h0 h3).sub.at hyat) ?_
          try simp(disch:=omega) only[go_sem,ξ,ζ]
          cases hB:Op.bytesLess y.1.toList x.1.toList with
          | false=>
            rw[okB_no hi' (by unfold okS;rw[hx];simp only[hy,hB];rw[decide_eq_false (by omega)];simp)]
            try simp(disch:=omega) only[go_sem,ξ,ζ,hB]
          | true=>
            try simp(disch:=omega) only[go_sem,ξ,ζ,hB]
            cases gb:x.2.big with
            | true=>
              rw[gb,cond_true] at kE
              rw[okB_no hi' (big gb)]
              refine caN (by exact kE) ?_;rintro v4 h4 s4 q4;obtain rfl:v4=_:=q4
              try simp(disch:=omega) only[go_sem,ξ,ζ]
            | false =>
              rw[gb,cond_false] at kE
              cases gv:x.2.set.void with
              | true=>
                rw[gv] at kE
                rw[okB_no hi' (voi gv)]
                refine caN (by exact kE) ?_;rintro v4 h4 s4 q4;obtain rfl:v4=_:=q4
                try simp(disch:=omega) only[go_sem,ξ,ζ]
              | false=>
                rw[gv] at kE
                refine caN (by exact kE) ?_;rintro v4 h4 s4 q4;obtain rfl:v4=_:=q4
                try simp(disch:=omega) only[go_sem,ξ,ζ]
                dsimp only[lpE];refine⟨i+1,?_,⟨inferInstance,by omega,fun j k=>?_⟩,by omega⟩
                · try simp(disch:=omega) only[go_sem,ξ,ζ]
                  all_goals rfl
                · rcases qBj j i with g |g
                  · exact hj j g
                  · obtain rfl:j=i:=by omega
                    exact nxt (by rw[hy];simp[hB]) gb gv
        · try simp(disch:=omega) only[go_sem,ξ,ζ,hn,i0,decide_false]
          cases gb:x.2.big with
          | true=>
            rw[gb,cond_true] at kE
            rw[okB_no hi' (big gb)]
            refine caN (by exact kE) ?_;rintro v4 h4 s4 q4;obtain rfl:v4=_:=q4
            try simp(disch:=omega) only[go_sem,ξ,ζ]
          | false =>
            rw[gb,cond_false] at kE
            cases gv:x.2.set.void with
            | true=>
              rw[gv] at kE
              rw[okB_no hi' (voi gv)]
              refine caN (by exact kE) ?_;rintro v4 h4 s4 q4;obtain rfl:v4=_:=q4
              try simp(disch:=omega) only[go_sem,ξ,ζ]
            | false=>
              rw[gv] at kE
              refine caN (by exact kE) ?_;rintro v4 h4 s4 q4;obtain rfl:v4=_:=q4
              try simp(disch:=omega) only[go_sem,ξ,ζ]
              dsimp only[lpE];refine⟨i+1,?_,⟨inferInstance,by omega,fun j k=>?_⟩,by omega⟩
              · try simp(disch:=omega) only[go_sem,ξ,ζ]
                all_goals rfl
              · rcases qBj j i with g |g
                · exact hj j g
                · obtain rfl:j=i:=by omega
                  exact nxt (by rw[decide_eq_true (by omega)];rfl) gb gv
    · rw[okB_yes (by omega) (fun j k=>hj j (by omega))]
      try simp(disch:=omega) only[go_sem,ξ,ζ,hlt,decide_false]
def Rv (h:PH) (v:Value) (q:Rat):Prop:=∃neg n d,Rw h v neg n d∧¬lg neg n d∧qof neg n d=q
theorem Rv.to {h h':PH} {v:Value} {q:Rat} (r:Rv h v q) [Le h h']:Rv h' v q:=let ⟨a,b,c,h1,h2⟩:=r;⟨a,b,c,h1.to,h2⟩
theorem Rv.of {h:PH} {v:Value} {q:Rat} (c:Cn h v q) (hs:sz q≤2048):Rv h v q:=⟨_,_,_,c.rw (χ hs (by decide)),by rw[lg_cn];omega,jA q⟩
theorem Rv.sz {h:PH} {v:Value} {q:Rat} (r:Rv h v q):sz q≤2048:=by
 obtain⟨_,_,_,_,h2,rfl⟩:=r
 unfold lg at h2
 omega
theorem Rv.up {h:PH} {v:Value} {q:Rat} (r:Rv h v q):Go.Q.sz q≤2^36:=χ r.sz (by decide)
theorem Rv.sa {h:PH} {v:Value} {q:Rat} (r:Rv h v q):∃b na nl nc da dl dc,v=.agg #[.bool b,.slice na nl nc,.slice da dl dc]∧Rv h (.agg #[.bool b,.slice na nl nc,.slice da dl dc]) q:=by
 have r0:=r
 obtain⟨_,_,_,h1,_,_⟩:=r
 obtain⟨_,_,_,_,_,_,_,rfl,_⟩:=h1.sa
 exact⟨_,_,_,_,_,_,_,rfl,r0⟩
theorem kg {h0 h:PH} [Le h0 h] {v:Value} {q:Rat} (hv:Rv h0 v q):Spec mach 62 #[v] h (fun r h'=>∃f,r=.tuple #[f,.bool true]∧Fr h' f q) NP:=by
 obtain⟨_,_,_,h1,h2,rfl⟩:=hv
 exact sN h1 h2
theorem Cd {h0 h:PH} [Le h0 h] {v:Value} {x:Rat} (hx:Fr h0 v x):Spec mach 298 #[v] h (fun v h'=>Fr h' v x) NP:=by
 have hx0:=hx
 obtain⟨_,_,_,_,_,_,_,rfl,hx1⟩:=hx.sa
 refine Spec.go [] Tryz.func298 rfl rfl (by kernel_rfl) fun C _=>?_
 simp(disch:=omega) only[go_sem,ξ,ζ]
 exact hx1.to
theorem iW {h0 h:PH} [Le h0 h] {v:Value} {q:Rat} (hx:Rv h0 v q):Spec mach 278 #[v] h (fun r h'=>∃b na nl nc da dl dc,r=.tuple #[.agg #[.bool b,.slice na nl nc,.slice da dl dc],.int .i64 0]∧Cn h' (.agg #[.bool b,.slice na nl nc,.slice da dl dc]) q) NP:=by
 have kX:=fun {h} [Le h0 h]=>kg (h:=h) hx
 have hs:=hx.sz
 have kO:∀{h:PH} [Le h0 h],Spec mach 297 #[v,.func (.func 298) #[] #[]] h (fun r h'=>∃b na nl nc da dl dc,r=.tuple #[.agg #[.bool b,.slice na nl nc,.slice da dl dc],.int .i64 0]∧Cn h' (.agg #[.bool b,.slice na nl nc,.slice da dl dc]) q) NP:=by
  intro h _
  obtain⟨_,_,_,_,_,_,_,rfl,_⟩:=hx.sa
  refine Spec.go [] Tryz.func297 rfl rfl (by kernel_rfl) fun C _=>?_
  simp(disch:=omega) only[go_sem,ξ,ζ]
  refine caN (by exact kX) ?_;rintro v1 h1 s1 ⟨f,rfl,hf⟩;obtain⟨_,_,_,_,_,_,_,rfl,hf⟩:=hf.sa
  simp(disch:=omega) only[go_sem,ξ,ζ]
  refine caN (by exact Cd hf) ?_;rintro v3 h3 s3 hz;obtain⟨_,_,_,_,_,_,_,rfl,hz⟩:=hz.sa
  simp(disch:=omega) only[go_sem,ξ,ζ]
  refine caN (by exact cO hz hs) ?_;rintro v4 h4 s4 ⟨u,rfl,c⟩;obtain⟨_,_,_,_,_,_,_,rfl,c⟩:=c.sa
  simp(disch:=omega) only[go_sem,ξ,ζ]
  exact⟨_,_,_,_,_,_,_,rfl,c⟩
 obtain⟨_,_,_,_,_,_,_,rfl,_⟩:=hx.sa
 refine Spec.go [] Tryz.func278 rfl rfl (by kernel_rfl) fun C _=>?_
 simp(disch:=omega) only[go_sem,ξ,ζ]
 refine caN (by exact kO) ?_;rintro v1 h1 s1 ⟨_,_,_,_,_,_,_,rfl,c⟩
 simp(disch:=omega) only[go_sem,ξ,ζ]
 exact⟨_,_,_,_,_,_,_,rfl,c⟩
theorem Low_spec {h0 h:PH} [Le h0 h] {v:Value} {m n:Nat} (hv:N32 h0 v m) (hn:n≤2^40):Spec mach 279 #[v,.int .i64 n] h (fun r _=>r=.bool (decide (m % 2^n≠0))) NP:=by
 have kT:=fun {h} [Le h0 h]=>qC (h:=h) hv
 have e1 :decide (m % 2^n≠0)=(decide (m≠0) && decide (tw m < n)):=by
  by_cases hm:m=0
  ·subst hm;simp
  ·obtain⟨t,ht⟩:=pz m hm
   by_cases hl:tw m < n
   ·have:m % 2^n≠0:=by
     intro e
     have hd:=Nat.dvd_of_mod_eq_zero e
     have h2:2^(tw m+1)∣m:=Nat.dvd_trans (Nat.pow_dvd_pow 2 hl) hd
     have h3:=F8 hm rfl
     obtain⟨c,hc⟩:=h2
     have e2:m / 2^tw m=2*c:=Nat.div_eq_of_eq_mul_right (qAo (by decide)) (by rw[←σ,←qAn];exact hc)
     rw[e2] at h3
     omega
    simp[this,hm,hl]
   ·have:m % 2^n=0:=Nat.mod_eq_zero_of_dvd (Nat.dvd_trans (Nat.pow_dvd_pow 2 (by omega)) (BZ m))
    simp[this,hl]
 rw[e1]
 obtain⟨a,c,xs,rfl,ha,hx,rfl⟩:=hv.out
 have hl0:=nP (B:=4294967296) (by decide) (n:=val 4294967296 xs)
 rw[hx] at hl0
 by_cases hm:val 4294967296 xs=0
 ·have e2:decide ((xs.length:Int) > 0)=false:=decide_eq_false (by omega)
  rw[show(decide (val 4294967296 xs≠0) && decide (tw (val 4294967296 xs) < n))=false by simp[hm]]
  refine Spec.go [] Tryz.func279 rfl rfl (by kernel_rfl) fun C _=>?_
  simp(disch:=omega) only[go_sem,ξ,ζ,e2]
 ·have e2:decide ((xs.length:Int) > 0)=true:=decide_eq_true (by omega)
  rw[show(decide (val 4294967296 xs≠0) && decide (tw (val 4294967296 xs) < n))=decide ((tw (val 4294967296 xs):Int) < (n:Int)) by simp[hm]]
  refine Spec.go [] Tryz.func279 rfl rfl (by kernel_rfl) fun C _=>?_
  simp(disch:=omega) only[go_sem,ξ,ζ,e2]
  refine caN (by exact kT) ?_;rintro v1 h1 s1 rfl
  simp(disch:=omega) only[go_sem,ξ,ζ]
def cdiv (a d:Nat):Nat:=(a+(d - 1)) / d
theorem pT {a d:Nat} (hd:d≠0) (h:a % d=0):cdiv a d=a / d:=by
 obtain⟨q,rfl⟩:=Nat.dvd_of_mod_eq_zero h
 unfold cdiv
 rw[Nat.mul_div_cancel_left _ (τ hd),Nat.mul_add_div (τ hd),Nat.div_eq_of_lt (by omega),Nat.add_zero]
theorem uA {a d:Nat} (hd:d≠0) (h:a % d≠0):cdiv a d=a / d+1:=by
 have e:=Nat.div_add_mod a d
 have l:=qBl a (τ hd)
 unfold cdiv
 generalize a / d=q at*
 generalize a % d=r at*
 subst e
 rw[Nat.add_assoc,Nat.mul_add_div (τ hd),show r+(d - 1)=d+(r - 1) by omega,Nat.add_div_left _ (τ hd),Nat.div_eq_of_lt (by omega)]
theorem am (n:Nat):2^n≠0:=Nat.ne_of_gt (qAo (by decide))
theorem AG {a d:Nat} (hd:d≠0):cdiv a d≤a / d+1:=by
 by_cases h:a % d=0
 ·rw[pT hd h];omega
 ·rw[uA hd h];omega
theorem fy (a:Nat) {d:Nat} (hd:d≠0):bl (cdiv a d)≤bl a+1:=by
 have h1:=cY (a / d) 1
 have h2:=aZ a d
 have h3:=aR (AG (a:=a) hd)
 by_cases h0:a=0
 ·subst h0
  rw[pT hd (Nat.zero_mod d)]
  omega
 have h4:=(xG h0).1
 have:=fI
 omega
theorem bu {h:PH} {w:Nat} (hw:w≤2^30):Spec mach 227 #[.int .i64 w] h (fun v h'=>N32 h' v (2^w)) NP:=by
 have e:=qBm (2^w)
 refine Spec.go [] Tryz.func227 rfl rfl (by kernel_rfl) fun C _=>?_
 try simp(disch:=omega) only[go_sem,ξ,ζ]
 refine caN (by exact aw (n:=1) (by decide)) ?_;rintro _ h1 _ q1;obtain⟨v1,_,_,rfl,q1⟩:=q1.sl
 try simp(disch:=omega) only[go_sem,ξ,ζ]
 refine caN (by exact aL (n:=w) q1 (by have:=fI;omega)) ?_;rintro _ h2 _ q2;obtain⟨v2,_,_,rfl,q2⟩:=q2.sl
 try simp(disch:=omega) only[go_sem,ξ,ζ]
 rw[e] at q2
 exact q2
theorem kJ {h0 h:PH} [Le h0 h] {v:Value} {a n:Nat} (hv:N32 h0 v a) (ba:bl a≤2^39) (hn:n≤2^39):Spec mach 231 #[v,.int .i64 n] h (fun v h'=>N32 h' v (cdiv a (2^n))) NP:=by
 have b1:=aZ a (2^n)
 have kS:=fun {h} [Le h0 h]=>gD (h:=h) (n:=n) hv (by omega) (by omega)
 have kL:=fun {h} [Le h0 h]=>Low_spec (h:=h) (n:=n) hv (by omega)
 obtain⟨_,_,_,rfl,_⟩:=hv.sl
 by_cases he:a % 2^n=0
 ·rw[pT (am n) he]
  rw[decide_eq_false (fun k=>k he)] at kL
  refine Spec.go [] Tryz.func231 rfl rfl (by kernel_rfl) fun C _=>?_
  try simp(disch:=omega) only[go_sem,ξ,ζ]
  refine caN (by exact kS) ?_;rintro _ h1 _ q1;obtain⟨v1,_,_,rfl,q1⟩:=q1.sl
  try simp(disch:=omega) only[go_sem,ξ,ζ]
  refine caN (by exact kL) ?_;rintro v2 h2 s2 rfl
  try simp(disch:=omega) only[go_sem,ξ,ζ]
  exact q1.to
 ·rw[uA (am n) he]
  rw[decide_eq_true he] at kL
  refine Spec.go [] Tryz.func231 rfl rfl (by kernel_rfl) fun C _=>?_
  try simp(disch:=omega) only[go_sem,ξ,ζ]
  refine caN (by exact kS) ?_;rintro _ h1 _ q1;obtain⟨v1,_,_,rfl,q1⟩:=q1.sl
  try simp(disch:=omega) only[go_sem,ξ,ζ]
  refine caN (by exact kL) ?_;rintro v2 h2 s2 rfl
  try simp(disch:=omega) only[go_sem,ξ,ζ]
  refine caN (by exact aw (n:=1) (by decide)) ?_;rintro _ h3 _ q3;obtain⟨v3,_,_,rfl,q3⟩:=q3.sl
  try simp(disch:=omega) only[go_sem,ξ,ζ]
  refine caN (by exact bR (q1.to (h':=h3)) q3 (by omega) (by have:=fI;omega)) ?_;rintro _ h4 _ q4;obtain⟨v4,_,_,rfl,q4⟩:=q4.sl
  try simp(disch:=omega) only[go_sem,ξ,ζ]
  exact q4
def odiv (a d:Nat) (c:Bool):Nat:=if c then cdiv a d else a / d
theorem bD {h0 h:PH} [Le h0 h] {v w:Value} {a d:Nat} {c:Bool} (hv:N32 h0 v a) (hw:N32 h0 w d) (hd:d≠0) (ba:bl a≤2^36) (bd:bl d≤2^36):Spec mach 226 #[v,w,.bool c] h (fun v h'=>N32 h' v (odiv a d c)) NP:=by
 have b1:=aZ a d
 have kD:=fun {h} [Le h0 h]=>gU (h:=h) hv hw hd (by omega) (by omega)
 obtain⟨_,_,_,rfl,_⟩:=hv.sl
 obtain⟨_,_,_,rfl,_⟩:=hw.sl
 cases c with
 | false=>
  refine Spec.go [] Tryz.func226 rfl rfl (by kernel_rfl) fun C _=>?_
  try simp(disch:=omega) only[go_sem,ξ,ζ]
  refine caN (by exact kD) ?_;rintro v1 h1 s1 ⟨q,r,rfl,hq,hr⟩;obtain⟨_,_,_,rfl,hq⟩:=hq.sl;obtain⟨_,_,_,rfl,hr⟩:=hr.sl
  try simp(disch:=omega) only[go_sem,ξ,ζ]
  exact hq
 | true=>
  by_cases he:a % d=0
  ·rw[show odiv a d true=a / d from pT hd he]
   refine Spec.go [] Tryz.func226 rfl rfl (by kernel_rfl) fun C _=>?_
   try simp(disch:=omega) only[go_sem,ξ,ζ]
   refine caN (by exact kD) ?_;rintro v1 h1 s1 ⟨q,r,rfl,hq,hr⟩;obtain⟨_,_,_,rfl,hq⟩:=hq.sl;obtain⟨_,_,_,rfl,hr⟩:=hr.sl
   try simp(disch:=omega) only[go_sem,ξ,ζ]
   refine caN (by exact bU hr) ?_;rintro v2 h2 s2 rfl
   try simp(disch:=omega) only[go_sem,ξ,ζ]
   try rw[decide_eq_true he]
   try simp(disch:=omega) only[go_sem,ξ,ζ]
   exact hq.to
  ·rw[show odiv a d true=a / d+1 from uA hd he]
   refine Spec.go [] Tryz.func226 rfl rfl (by kernel_rfl) fun C _=>?_
   try simp(disch:=omega) only[go_sem,ξ,ζ]
   refine caN (by exact kD) ?_;rintro v1 h1 s1 ⟨q,r,rfl,hq,hr⟩;obtain⟨_,_,_,rfl,hq⟩:=hq.sl;obtain⟨_,_,_,rfl,hr⟩:=hr.sl
   try simp(disch:=omega) only[go_sem,ξ,ζ]
   refine caN (by exact bU hr) ?_;rintro v2 h2 s2 rfl
   try simp(disch:=omega) only[go_sem,ξ,ζ]
   try rw[decide_eq_false he]
   try simp(disch:=omega) only[go_sem,ξ,ζ]
   refine caN (by exact aw (n:=1) (by decide)) ?_;rintro _ h3 _ q3;obtain⟨v3,_,_,rfl,q3⟩:=q3.sl
   try simp(disch:=omega) only[go_sem,ξ,ζ]
   refine caN (by exact bR (hq.to (h':=h3)) q3 (by omega) (by have:=fI;omega)) ?_;rintro _ h4 _ q4;obtain⟨v4,_,_,rfl,q4⟩:=q4.sl
   try simp(disch:=omega) only[go_sem,ξ,ζ]
   exact q4
theorem N32.rw {h:PH} {neg:Bool} {v w:Value} {n d:Nat} (hv:N32 h v n) (hw:N32 h w d) (bn:bl n≤2^30) (bd:bl d≤2^30):Rw h (.agg #[.bool neg,v,w]) neg n d:=by
 obtain⟨a,c,xs,rfl,ha,hx,rfl⟩:=hv.out
 obtain⟨a',c',ys,rfl,ha',hy,rfl⟩:=hw.out
 have l1:=dj (val 4294967296 xs)
 have l2:=dj (val 4294967296 ys)
 rw[hx] at l1
 rw[hy] at l2
 exact⟨a,c,xs,a',c',ys,rfl,ha,ha',rfl,rfl,by omega,by omega⟩
theorem rH {h0 h:PH} [Le h0 h] {v:Value} {n:Nat} (hv:N32 h0 v n):Spec mach 116 #[v] h (fun v h'=>N32 h' v n) NP:=by
 obtain⟨a,c,xs,rfl,ha,_,rfl⟩:=hv.out
 exact Of_N ha
theorem grid_rv {h:PH} {neg:Bool} {v w:Value} {a n:Nat} (hv:N32 h v a) (hw:N32 h w (2^n)) (ba:bl a≤2048) (hn:n < 2048):Rv h (.agg #[.bool neg,v,w]) (sgn neg a (2^n)):=by
 have b2:bl (2^n)≤2048:=χ (bC n) hn
 have hp:2^n≠0:=Nat.ne_of_gt (qAo (by decide))
 have e:qof neg a (2^n)=sgn neg a (2^n):=by unfold qof dz;rw[if_neg hp]
 refine⟨neg,a,2^n,hv.rw hw (by omega) (by omega),?_,e⟩
 have:=dg neg a hp
 unfold lg
 rw[e]
 omega
theorem aO {h0 h:PH} [Le h0 h] {v:Value} {a n:Nat} {neg:Bool} (hv:N32 h0 v a) (ba:bl a≤2048) (hn:n < 2048):Spec mach 230 #[v,.int .i64 n,.bool neg] h (fun v h'=>Cn h' v (sgn neg a (2^n))) NP:=by
 have hv0:=hv
 obtain⟨_,_,_,rfl,_⟩:=hv.sl
 refine Spec.go [] Tryz.func230 rfl rfl (by kernel_rfl) fun C _=>?_
 try simp(disch:=omega) only[go_sem,ξ,ζ]
 refine caN (by exact bu (w:=n) (by omega)) ?_;rintro _ h1 _ q1;obtain⟨v1,_,_,rfl,q1⟩:=q1.sl
 try simp(disch:=omega) only[go_sem,ξ,ζ]
 refine caN (by exact iW (grid_rv (neg:=neg) (hv0.to (h':=h1)) q1 ba hn)) ?_;rintro v2 h2 s2 ⟨_,_,_,_,_,_,_,rfl,c⟩
 try simp(disch:=omega) only[go_sem,ξ,ζ]
 exact c
def Pr (h:PH) (v:Value) (a b:Nat):Prop:=∃x m c y n d,v=.agg #[.slice x m c,.slice y n d]∧N32 h (.slice x m c) a∧N32 h (.slice y n d) b
theorem Pr.to {h h':PH} {v:Value} {a b:Nat} (r:Pr h v a b) [Le h h']:Pr h' v a b:=let ⟨x,m,c,y,n,d,e,h1,h2⟩:=r;⟨x,m,c,y,n,d,e,h1.to,h2.to⟩
def Bk (h:PH) (v:Value) (x y:Rat):Prop:=∃b1 a1 m1 c1 a2 m2 c2 b2 a3 m3 c3 a4 m4 c4,v=.agg #[.bool b1,.slice a1 m1 c1,.slice a2 m2 c2,.bool b2,.slice a3 m3 c3,.slice a4 m4 c4]∧Cn h (.agg #[.bool b1,.slice a1 m1 c1,.slice a2 m2 c2]) x∧Cn h (.agg #[.bool b2,.slice a3 m3 c3,.slice a4 m4 c4]) y
theorem Bk.to {h h':PH} {v:Value} {x y:Rat} (r:Bk h v x y) [Le h h']:Bk h' v x y:=by
 obtain⟨b1,a1,m1,c1,a2,m2,c2,b2,a3,m3,c3,a4,m4,c4,e,k1,k2⟩:=r
 exact⟨b1,a1,m1,c1,a2,m2,c2,b2,a3,m3,c3,a4,m4,c4,e,k1.to,k2.to⟩
theorem fw {h0 h:PH} [Le h0 h] {v:Value} {a b w p:Nat} {neg:Bool} (hv:Pr h0 v a b) (ba:bl a≤2^30) (bb:bl b≤2^30) (hp:p≤w) (hw:w≤2^30) (hp':p < 2048) (ra:bl (a / 2^(w - p))≤2048) (rb:bl (cdiv b (2^(w - p)))≤2048):
  Spec mach 161 #[v,.int .i64 w,.int .i64 p,.bool neg] h (fun v h'=>Bk h' v (if neg then sgn neg (cdiv b (2^(w - p))) (2^p) else sgn neg (a / 2^(w - p)) (2^p)) (if neg then sgn neg (a / 2^(w - p)) (2^p) else sgn neg (cdiv b (2^(w - p))) (2^p))) NP:=by
 obtain⟨x,m,c,y,n,d,rfl,k1,k2⟩:=hv
 have ew:IntKind.i64.wrap ((w:Int) - (p:Int))=((w - p:Nat):Int):=by rw[wi64 (by omega) (by omega)];omega
 have ew':(w:Int) - (p:Int)=((w - p:Nat):Int):=by omega
 cases neg
 all_goals
  refine Spec.go [(1,.t (.s [0,1,2,3,4,6,7,9,10,11,12,13,15,16] (.a 5 (.a 8 (.a 14 (.a 17 (.s [18] (.a 19 (.a 20 .d .n) .n)) (.a 19 (.a 17 (.s [18] (.a 20 .d .n)) .n) .n)) (.a 19 (.a 14 (.a 17 (.s [18] (.a 20 .d .n)) .n) .n) .n)) (.a 19 (.a 8 (.a 14 (.a 17 (.s [18] (.a 20 .d .n)) .n) .n) .n) .n)) (.a 19 (.a 5 (.a 8 (.a 14 (.a 17 (.s [18] (.a 20 .d .n)) .n) .n) .n) .n) .n))))] Tryz.func161 rfl rfl (by kernel_rfl) fun C _=>?_
  try simp(disch:=omega) only[go_sem,ξ,ζ,ew']
  (repeat' refine And.intro ?_ ?_)
  all_goals
   refine caN (by exact gD (n:=w - p) k1 (by omega) (by omega)) ?_;rintro _ g1 _ q1;obtain⟨v1,_,_,rfl,q1⟩:=q1.sl
   try simp(disch:=omega) only[go_sem,ξ,ζ]
   (repeat' refine And.intro ?_ ?_)
   all_goals
    refine caN (by exact aO (n:=p) q1 ra hp') ?_;rintro v2 g2 s2 q2;obtain⟨_,_,_,_,_,_,_,rfl,q2⟩:=q2.sa
    try simp(disch:=omega) only[go_sem,ξ,ζ,ew']
    (repeat' refine And.intro ?_ ?_)
    all_goals
     refine caN (by exact kJ (n:=w - p) (k2.to (h':=g2)) (by omega) (by omega)) ?_;rintro _ g3 _ q3;obtain⟨v3,_,_,rfl,q3⟩:=q3.sl
     try simp(disch:=omega) only[go_sem,ξ,ζ]
     (repeat' refine And.intro ?_ ?_)
     all_goals
      refine caN (by exact aO (n:=p) q3 rb hp') ?_;rintro v4 g4 s4 q4;obtain⟨_,_,_,_,_,_,_,rfl,q4⟩:=q4.sa
      try simp(disch:=omega) only[go_sem,ξ,ζ]
      (repeat' refine And.intro ?_ ?_)
      all_goals
       try simp(disch:=omega) only[go_sem,ξ,ζ]
       first
        |exact⟨_,_,_,_,_,_,_,_,_,_,_,_,_,_,rfl,q2.to,q4⟩
        |exact⟨_,_,_,_,_,_,_,_,_,_,_,_,_,_,rfl,q4,q2.to⟩
theorem o8 {h0 h:PH} [Le h0 h] {v:Value} {a b w:Nat} (hv:Pr h0 v a b) (ba:bl a≤2^30) (bb:bl b≤2^30) (hw:w≤2^30):
  Spec mach 277 #[v,.int .i64 w] h (fun v h'=>Pr h' v (a*a / 2^w) (cdiv (b*b) (2^w))) NP:=by
 obtain⟨x,m,c,y,n,d,rfl,k1,k2⟩:=hv
 have b1:=aG a a
 have b2:=aG b b
 refine Spec.go [(1,.o [0,1,2,3,5,7,8,9,10,12,4,6,11,13,14,15])] Tryz.func277 rfl rfl (by kernel_rfl) fun C _=>?_
 try simp(disch:=omega) only[go_sem,ξ,ζ]
 refine caN (by exact aI k1 k1 (by omega) (by omega)) ?_;rintro _ g1 _ q1;obtain⟨v1,_,_,rfl,q1⟩:=q1.sl
 try simp(disch:=omega) only[go_sem,ξ,ζ]
 refine caN (by exact gD (n:=w) q1 (by omega) (by omega)) ?_;rintro _ g2 _ q2;obtain⟨v2,_,_,rfl,q2⟩:=q2.sl
 try simp(disch:=omega) only[go_sem,ξ,ζ]
 refine caN (by exact aI (k2.to (h':=g2)) (k2.to (h':=g2)) (by omega) (by omega)) ?_;rintro _ g3 _ q3;obtain⟨v3,_,_,rfl,q3⟩:=q3.sl
 try simp(disch:=omega) only[go_sem,ξ,ζ]
 refine caN (by exact kJ (n:=w) q3 (by omega) (by omega)) ?_;rintro _ g4 _ q4;obtain⟨v4,_,_,rfl,q4⟩:=q4.sl
 try simp(disch:=omega) only[go_sem,ξ,ζ]
 exact⟨_,_,_,_,_,_,rfl,q2.to,q4⟩
theorem jh {h0 h:PH} [Le h0 h] {v:Value} {a b n:Nat} (hv:Pr h0 v a b) (ba:bl a≤2^30) (bb:bl b≤2^30) (hn:n≤2^30):
  Spec mach 228 #[v,.int .i64 n] h (fun v h'=>Pr h' v (a*2^n) (b*2^n)) NP:=by
 obtain⟨x,m,c,y,l,d,rfl,k1,k2⟩:=hv
 refine Spec.go [(1,.o [0,1,2,4,5,6,3,7,8,9])] Tryz.func228 rfl rfl (by kernel_rfl) fun C _=>?_
 try simp(disch:=omega) only[go_sem,ξ,ζ]
 refine caN (by exact aL (n:=n) k1 (by omega)) ?_;rintro _ g1 _ q1;obtain⟨v1,_,_,rfl,q1⟩:=q1.sl
 try simp(disch:=omega) only[go_sem,ξ,ζ]
 refine caN (by exact aL (n:=n) (k2.to (h':=g1)) (by omega)) ?_;rintro _ g2 _ q2;obtain⟨v2,_,_,rfl,q2⟩:=q2.sl
 try simp(disch:=omega) only[go_sem,ξ,ζ]
 exact⟨_,_,_,_,_,_,rfl,q1.to,q2⟩
end Go.Q
