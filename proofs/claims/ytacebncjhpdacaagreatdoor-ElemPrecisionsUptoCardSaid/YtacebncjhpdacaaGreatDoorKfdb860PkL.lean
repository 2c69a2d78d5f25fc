/-
  Contracts of the reference's rational numbers: reading, giving, sizes, signs. Conditions: the values are rational numbers (Rw, Qr), of at most 2^36 binary digits.
  Contracts of the reference's rational numbers: sizes, signs, sums, order. Conditions: the values are rational numbers (Rw, Qr), of at most 2^34 binary digits.
  Contracts of the reference's rational numbers: grids, quotients. Conditions: the values are rational numbers (Qr), of at most 2^30 binary digits.
  Contracts of the reference's rational numbers: rounding to grids, quotients, results. Conditions: the values are rational numbers (Qr), of at most 2^30 binary digits.
  Contract of package word: powers of natural numbers. Conditions: the slice holds words (N32), the power has at most 2^36 bits.
  Powers of numbers, plain: their order, their size; whole parts of roots, and the step that finds them. Conditions: none.
  Contract of package word: whole parts of roots. Conditions: the slice holds words (N32), of at most 2^20 bits; the index is from 2 to 8.
  Contracts of the reference's natural numbers: powers. Conditions: the slice holds digits (N16); the power has at most 2^30 bits.
  Contracts of the reference's natural numbers: binary digits, whole parts of roots. Conditions: the slice holds digits (N16), of at most 2^20 bits; the index is from 2 to 8.
  From a law's contract to its statement: the arguments read as intervals and numbers; what was there stays as it was. Conditions: what is read is of bulk at most 1048576.
  Numbers as they come in (Rv) and as an operation of package number returns them (Nq). Conditions: none.
-/
import Derived.Test.YtacebncjhpdacaaGreatDoorKaf3bb5PkK
import Derived.Test.YtacebncjhpdacaaGreatDoorK8c97aaPkF
import Derived.Test.YtacebncjhpdacaaGreatDoorK1d945fPkH
import Derived.Test.YtacebncjhpdacaaGreatDoorK738b42PkJ
import Derived.Test.YtacebncjhpdacaaGreatDoorK85bcfbPkI
import Derived.Test.YtacebncjhpdacaaGreatDoorCards
import Derived.Test.YtacebncjhpdacaaGreatDoorTie
import Derived.WalkKit
import Derived.ProofKit
import Derived.OpenShut
import Derived.Deep.DeepHandedRow
import Derived.Lib.LaidTab
set_option linter.unusedVariables false
set_option linter.unusedSimpArgs false
namespace Go.Q
open Go.Proofs
set_option maxRecDepth 100000
set_option maxHeartbeats 4000000
theorem bl_dz (d:Nat):bl (dz d)≤bl d+1:=by
  unfold dz;split
  · subst d;decide
  · omega
theorem words_N {h0 h:PH} [Le h0 h] {a:Option Addr} {c n L:Nat} {xs:List Nat} (ha:Arr h0 a c xs) (hl:xs.length=L) (hs:xs.length≤2^40) (hn:val 4294967296 xs=n):
    Spec mach 38 #[.slice a L c] h (fun v h'=>N16 h' v n) NP:=by subst hl hn;exact words_spec ha hs
theorem val_bl {xs:List Nat} (hlt:∀x∈xs,x < 4294967296):bl (val 4294967296 xs)≤32*xs.length:=by
  rw[bl_le,B_pow];exact val_lt (by decide) xs hlt
theorem QOf_spec {h0 h:PH} [Le h0 h] {v:Value} {neg:Bool} {n d:Nat} (hv:Rw h0 v neg n d):
    Spec mach 9 #[v] h (fun v h'=>Qr h' v (qof neg n d)) NP:=by
  obtain⟨a,c,xs,a',c',ys,rfl,ha,ha',hn,hd,hsx,hsy⟩:=hv
  have bn:bl n≤2^37:=by have:=val_bl ha.lt;rw[hn] at this;omega
  have bd:bl d≤2^37:=by have:=val_bl ha'.lt;rw[hd] at this;omega
  have bz:=bl_dz d
  refine Spec.enter (args:=[_]) (n:=18) Tryz.func9 rfl (by kernel_rfl) rfl (by simp) [.cell 2 33] rfl (fun C _=>?_)
  repeat (first |(refine wo rfl (fun k hk=>?_);simp(disch:=omega) only[go_sem,Nat.reduceBEq,Nat.reduceAdd];apply hk;clear hk k) |refine wkt rfl ?_ |refine wk0 ?_ |refine rg rfl rfl (fun K hK=>?_) |refine rd [.o 0,.o 1,.o 2,.o 3,.o 5,.o 4,.o 6,.o 7] rfl (by decide+kernel) rfl (fun K hK=>?_) |((first |refine AWP_exit ?_ |refine AWP_skip ?_);simp(disch:=decide) only[qs,qb,if_true,if_false,reduceIte]) |refine AWP_sq rfl (fun K hK=>?_) |refine ct rfl ?_ |((try simp(disch:=omega) only[go_sem,Nat.reduceBEq,Nat.reduceAdd]);(first |apply hK |(clear hK;apply hK) |(clear hK;clear hK;apply hK));clear hK;(try clear K);(try dsimp only[behind,qs,qb])))
  refine cN rfl rfl rfl rfl (by exact words_N ha' rfl (by omega) hd) ?_;rintro v1 h1 _ hv1;obtain⟨v1,v1_l,v1_c,rfl,hv1⟩:=hv1.sl;(repeat (first |(refine wo rfl (fun k hk=>?_);simp(disch:=omega) only[go_sem,Nat.reduceBEq,Nat.reduceAdd];apply hk;clear hk k) |refine wkt rfl ?_));(try refine wk0 ?_)
  (try (simp(disch:=omega) only[go_sem,Nat.reduceBEq,Nat.reduceAdd]));apply hK;clear hK;(try clear K);(try dsimp only[behind,qs])
  have l1:=hv1.len0
  refine AWP_sqs (fun K hK=>?_)
  have rest:∀(va:Option Addr) (vl vc:Nat) (h':PH) (S:AS),Le h0 h'→N16 h' (.slice va vl vc) (dz d)→S.le ⟨[(1,.p 0 0),(2,.p 1 0),(3,.v (.slice va vl vc))],[[.bool neg,.slice a xs.length c,.slice a' ys.length c'],[.bool false,.slice none 0 0,.slice none 0 0]]⟩→K S h':=by
    intro va vl vc h' S _ hz hS
    refine hK _ _ (AWP_le _ hS ?_);clear hK K
    (first |refine rg rfl rfl (fun K hK=>?_) |refine rd [.o 0,.o 1,.o 2,.o 3,.o 5,.o 4,.o 6,.o 7] rfl (by decide+kernel) rfl (fun K hK=>?_));(repeat (first |(refine wo rfl (fun k hk=>?_);simp(disch:=omega) only[go_sem,Nat.reduceBEq,Nat.reduceAdd];apply hk;clear hk k) |refine wkt rfl ?_));(try refine wk0 ?_)
    refine cN rfl rfl rfl rfl (by exact words_N ha rfl (by omega) hn) ?_;rintro v2 h2 _ hv2;obtain⟨v2,v2_l,v2_c,rfl,hv2⟩:=hv2.sl;(repeat (first |(refine wo rfl (fun k hk=>?_);simp(disch:=omega) only[go_sem,Nat.reduceBEq,Nat.reduceAdd];apply hk;clear hk k) |refine wkt rfl ?_));(try refine wk0 ?_)
    refine cN rfl rfl rfl rfl (by exact Make_spec (neg:=neg) hv2 (hz.to (h':=h2)) (by omega) (by omega)) ?_;rintro v3 h3 _ hv3;obtain⟨v3_0,v3_1,v3_2,v3_3,v3_4,v3_5,v3_6,rfl,hv3⟩:=hv3.sa;(repeat (first |(refine wo rfl (fun k hk=>?_);simp(disch:=omega) only[go_sem,Nat.reduceBEq,Nat.reduceAdd];apply hk;clear hk k) |refine wkt rfl ?_));(try refine wk0 ?_)
    (try (simp(disch:=omega) only[go_sem,Nat.reduceBEq,Nat.reduceAdd]));apply hK;clear hK;(try clear K);(try dsimp only[behind,qs])
    refine AWP_ret ?_;simp(disch:=omega) only[go_sem,Nat.reduceBEq,Nat.reduceAdd]
    exact hv3
  by_cases hd0:d=0
  · refine AWP_rs rfl (fun K hK=>?_);(repeat (first |(refine wo rfl (fun k hk=>?_);simp(disch:=omega) only[go_sem,Nat.reduceBEq,Nat.reduceAdd];apply hk;clear hk k) |refine wkt rfl ?_));(try refine wk0 ?_);(first |refine hK _ _ ?_ |(clear hK;refine hK _ _ ?_) |(clear hK;clear hK;refine hK _ _ ?_));clear hK;(try clear K)
    refine AWP_condT rfl ?_
    (first |refine rg rfl rfl (fun K hK=>?_) |refine rd [.o 0,.o 1,.o 2,.o 3,.o 5,.o 4,.o 6,.o 7] rfl (by decide+kernel) rfl (fun K hK=>?_));(repeat (first |(refine wo rfl (fun k hk=>?_);simp(disch:=omega) only[go_sem,Nat.reduceBEq,Nat.reduceAdd];apply hk;clear hk k) |refine wkt rfl ?_));(try refine wk0 ?_)
    refine cN rfl rfl rfl rfl (by exact NatOf_spec (n:=1) (by decide)) ?_;rintro w1 h2 _ hw1;obtain⟨w1,w1_l,w1_c,rfl,hw1⟩:=hw1.sl;(repeat (first |(refine wo rfl (fun k hk=>?_);simp(disch:=omega) only[go_sem,Nat.reduceBEq,Nat.reduceAdd];apply hk;clear hk k) |refine wkt rfl ?_));(try refine wk0 ?_)
    (try (simp(disch:=omega) only[go_sem,Nat.reduceBEq,Nat.reduceAdd]));apply hK;clear hK;(try clear K);(try dsimp only[behind,qs])
    refine rest _ _ _ _ _ inferInstance (by rw[hd0];exact hw1) ?_
    simp(disch:=omega) only[go_sem,Nat.reduceBEq,Nat.reduceAdd]
  · refine AWP_rs rfl (fun K hK=>?_);(repeat (first |(refine wo rfl (fun k hk=>?_);simp(disch:=omega) only[go_sem,Nat.reduceBEq,Nat.reduceAdd];apply hk;clear hk k) |refine wkt rfl ?_));(try refine wk0 ?_);(first |refine hK _ _ ?_ |(clear hK;refine hK _ _ ?_) |(clear hK;clear hK;refine hK _ _ ?_));clear hK;(try clear K)
    refine AWP_condF rfl ?_
    refine AWP_skip ?_;simp only[qs,qb,if_true,if_false,reduceIte]
    refine rest _ _ _ _ _ inferInstance (by rw[dz_self hd0];exact hv1) ?_
    simp(disch:=omega) only[go_sem,Nat.reduceBEq,Nat.reduceAdd]
theorem QRat_spec {h0 h:PH} [Le h0 h] {v:Value} {x:Rat} (hx:Qr h0 v x) (bx:sz x≤2^36):Spec mach 45 #[v] h (fun v h'=>Cn h' v x) NP:=by
  obtain⟨na,nl,nc,da,dl,dc,e,rfl,hn,hd,he⟩:=hx.sl
  have b1:=sz_num x;have b2:=sz_den x
  have b3:bl e≤sz x:=by
    rcases Nat.eq_zero_or_pos e with h |h
    · subst h;have:bl 0=0:=by decide
      omega
    · rw[dz_self (by omega)] at he;rw[he];exact b2
  have ln:=hn.len0
  obtain⟨neg,en⟩:∃b,decide (x.num < 0)=b:=⟨_,rfl⟩
  rw[en] at hx ⊢
  have hnn:neg=true→0 < nl:=by
    intro e1
    rw[e1,decide_eq_true_eq] at en
    rcases Nat.eq_zero_or_pos nl with h |h
    · have:=ln.1 h;omega
    · exact h
  refine Spec.enter (args:=[_]) (n:=24) Tryz.func45 rfl (by kernel_rfl) rfl (by simp) [.cell 2 24] rfl (fun C _=>?_)
  repeat (first |(refine rg rfl rfl (fun K hK=>?_);(repeat (first |(refine wo rfl (fun k hk=>?_);simp(disch:=omega) only[go_sem,Nat.reduceBEq,Nat.reduceAdd];apply hk;clear hk k) |refine wkt rfl ?_));(try refine wk0 ?_);apply hK;clear hK K;(try dsimp only[behind,qs,qb])) |((first |refine AWP_exit ?_ |refine AWP_skip ?_);simp(disch:=decide) only[qs,qb,if_true,if_false,reduceIte]) |refine AWP_sq rfl (fun K hK=>?_) |refine ct rfl ?_ |((first |refine hK _ _ ?_ |(clear hK;refine hK _ _ ?_) |(clear hK;clear hK;refine hK _ _ ?_));clear hK;(try clear K)))
  (first |refine AWP_t (.seg [.o 0,.o 1,.o 2,.o 3,.o 4,.o 5,.o 6,.o 7,.o 8,.o 9] (.alt 10 (.seg [.o 11] (.alt 12 (.alt 13 .done .no) .no)) (.alt 12 (.alt 10 (.seg [.o 11] (.alt 13 .done .no)) .no) .no))) (by decide+kernel) rfl (fun K hK=>?_) |refine AWP_tk (.seg [.o 0,.o 1,.o 2,.o 3,.o 4,.o 5,.o 6,.o 7,.o 8,.o 9] (.alt 10 (.seg [.o 11] (.alt 12 (.alt 13 .done .no) .no)) (.alt 12 (.alt 10 (.seg [.o 11] (.alt 13 .done .no)) .no) .no))) (by decide+kernel) rfl (fun K hK=>?_))
  have rest:∀(va:Option Addr) (vl vc:Nat) (h':PH) (S:AS),Le h0 h'→N32 h' (.slice va vl vc) x.num.natAbs→S.le ⟨[(1,.p 0 0),(2,.p 1 0),(3,.p 2 0)],[[.bool neg,.slice na nl nc,.slice da dl dc],[.bool false,.slice none 0 0,.slice none 0 0],[.bool neg,.slice va vl vc,.slice none 0 0]]⟩→K S h':=by
    intro va vl vc h' S _ hz hS
    refine hK _ _ (AWP_le _ hS ?_);clear hK K
    refine AWP_sqs (fun K hK=>?_)
    refine rg rfl rfl (fun K hK=>?_);(repeat (first |(refine wo rfl (fun k hk=>?_);simp(disch:=omega) only[go_sem,Nat.reduceBEq,Nat.reduceAdd];apply hk;clear hk k) |refine wkt rfl ?_ |with_reducible refine wk0 ?_ |with_reducible refine wt_seg ?_ |with_reducible refine wt_alt ?_ wt_no |with_reducible refine wt_done ?_))
    refine cN rfl rfl rfl rfl (by exact whole_spec hx) ?_;rintro v3 h3 s3 rfl;(repeat (first |(refine wo rfl (fun k hk=>?_);simp(disch:=omega) only[go_sem,Nat.reduceBEq,Nat.reduceAdd];apply hk;clear hk k) |refine wkt rfl ?_ |with_reducible refine wk0 ?_ |with_reducible refine wt_seg ?_ |with_reducible refine wt_alt ?_ wt_no |with_reducible refine wt_done ?_))
    by_cases h1:x.den=1
    · ((try (simp(disch:=omega) only[go_sem,Nat.reduceBEq,Nat.reduceAdd]));apply hK;clear hK;(try clear K);(try dsimp only[behind,qs]));(repeat (first |(refine rg rfl rfl (fun K hK=>?_);(repeat (first |(refine wo rfl (fun k hk=>?_);simp(disch:=omega) only[go_sem,Nat.reduceBEq,Nat.reduceAdd];apply hk;clear hk k) |refine wkt rfl ?_));(try refine wk0 ?_);apply hK;clear hK K;(try dsimp only[behind,qs,qb])) |((first |refine AWP_exit ?_ |refine AWP_skip ?_);simp(disch:=decide) only[qs,qb,if_true,if_false,reduceIte]) |refine AWP_sq rfl (fun K hK=>?_) |refine ct rfl ?_ |((first |refine hK _ _ ?_ |(clear hK;refine hK _ _ ?_) |(clear hK;clear hK;refine hK _ _ ?_));clear hK;(try clear K))))
      refine AWP_ret ?_;simp(disch:=omega) only[go_sem,Nat.reduceBEq,Nat.reduceAdd]
      exact⟨_,_,by rw[en],hz.to,by rw[if_pos h1];exact N32.zero _⟩
    · have e1:e=x.den:=by
        rw[←he] at h1 ⊢
        unfold dz at h1 ⊢
        split at h1
        · exact(h1 rfl).elim
        · rename_i h2;rw[if_neg h2]
      rw[e1] at hd b3
      ((try (simp(disch:=omega) only[go_sem,Nat.reduceBEq,Nat.reduceAdd]));apply hK;clear hK;(try clear K);(try dsimp only[behind,qs]));(repeat (first |(refine rg rfl rfl (fun K hK=>?_);(repeat (first |(refine wo rfl (fun k hk=>?_);simp(disch:=omega) only[go_sem,Nat.reduceBEq,Nat.reduceAdd];apply hk;clear hk k) |refine wkt rfl ?_));(try refine wk0 ?_);apply hK;clear hK K;(try dsimp only[behind,qs,qb])) |((first |refine AWP_exit ?_ |refine AWP_skip ?_);simp(disch:=decide) only[qs,qb,if_true,if_false,reduceIte]) |refine AWP_sq rfl (fun K hK=>?_) |refine ct rfl ?_ |((first |refine hK _ _ ?_ |(clear hK;refine hK _ _ ?_) |(clear hK;clear hK;refine hK _ _ ?_));clear hK;(try clear K))));(refine rg rfl rfl (fun K hK=>?_);(repeat (first |(refine wo rfl (fun k hk=>?_);simp(disch:=omega) only[go_sem,Nat.reduceBEq,Nat.reduceAdd];apply hk;clear hk k) |refine wkt rfl ?_ |with_reducible refine wk0 ?_ |with_reducible refine wt_seg ?_ |with_reducible refine wt_alt ?_ wt_no |with_reducible refine wt_done ?_)))
      refine cN rfl rfl rfl rfl (by exact list_spec hd (by omega)) ?_;rintro v4 h4 _ hv4;obtain⟨v4,v4_l,v4_c,rfl,hv4⟩:=hv4.sl;(repeat (first |(refine wo rfl (fun k hk=>?_);simp(disch:=omega) only[go_sem,Nat.reduceBEq,Nat.reduceAdd];apply hk;clear hk k) |refine wkt rfl ?_ |with_reducible refine wk0 ?_ |with_reducible refine wt_seg ?_ |with_reducible refine wt_alt ?_ wt_no |with_reducible refine wt_done ?_))
      ((try (simp(disch:=omega) only[go_sem,Nat.reduceBEq,Nat.reduceAdd]));apply hK;clear hK;(try clear K);(try dsimp only[behind,qs]));(repeat (first |(refine rg rfl rfl (fun K hK=>?_);(repeat (first |(refine wo rfl (fun k hk=>?_);simp(disch:=omega) only[go_sem,Nat.reduceBEq,Nat.reduceAdd];apply hk;clear hk k) |refine wkt rfl ?_));(try refine wk0 ?_);apply hK;clear hK K;(try dsimp only[behind,qs,qb])) |((first |refine AWP_exit ?_ |refine AWP_skip ?_);simp(disch:=decide) only[qs,qb,if_true,if_false,reduceIte]) |refine AWP_sq rfl (fun K hK=>?_) |refine ct rfl ?_ |((first |refine hK _ _ ?_ |(clear hK;refine hK _ _ ?_) |(clear hK;clear hK;refine hK _ _ ?_));clear hK;(try clear K))))
      refine AWP_ret ?_;simp(disch:=omega) only[go_sem,Nat.reduceBEq,Nat.reduceAdd]
      exact⟨_,_,by rw[en],hz.to,by rw[if_neg h1];exact hv4⟩
  cases neg with
  | true=>
    have hnn':=hnn rfl
    (repeat (first |(refine wo rfl (fun k hk=>?_);simp(disch:=omega) only[go_sem,Nat.reduceBEq,Nat.reduceAdd];apply hk;clear hk k) |refine wkt rfl ?_ |with_reducible refine wk0 ?_ |with_reducible refine wt_seg ?_ |with_reducible refine wt_alt ?_ wt_no |with_reducible refine wt_done ?_))
    refine wt_alt ?_ (wt_alt ?_ wt_no)
    · refine cN rfl rfl rfl rfl (by exact list_spec hn (by omega)) ?_;rintro v2 h2 _ hv2;obtain⟨v2,v2_l,v2_c,rfl,hv2⟩:=hv2.sl;(repeat (first |(refine wo rfl (fun k hk=>?_);simp(disch:=omega) only[go_sem,Nat.reduceBEq,Nat.reduceAdd];apply hk;clear hk k) |refine wkt rfl ?_ |with_reducible refine wk0 ?_ |with_reducible refine wt_seg ?_ |with_reducible refine wt_alt ?_ wt_no |with_reducible refine wt_done ?_))
      refine rest _ _ _ _ _ inferInstance hv2 ?_
      simp(disch:=omega) only[go_sem,Nat.reduceBEq,Nat.reduceAdd]
    · (repeat (first |(refine wo rfl (fun k hk=>?_);simp(disch:=omega) only[go_sem,Nat.reduceBEq,Nat.reduceAdd];apply hk;clear hk k) |refine wkt rfl ?_ |with_reducible refine wk0 ?_ |with_reducible refine wt_seg ?_ |with_reducible refine wt_alt ?_ wt_no |with_reducible refine wt_done ?_))
      refine cN rfl rfl rfl rfl (by exact list_spec hn (by omega)) ?_;rintro v2 h2 _ hv2;obtain⟨v2,v2_l,v2_c,rfl,hv2⟩:=hv2.sl;(repeat (first |(refine wo rfl (fun k hk=>?_);simp(disch:=omega) only[go_sem,Nat.reduceBEq,Nat.reduceAdd];apply hk;clear hk k) |refine wkt rfl ?_ |with_reducible refine wk0 ?_ |with_reducible refine wt_seg ?_ |with_reducible refine wt_alt ?_ wt_no |with_reducible refine wt_done ?_))
      refine rest _ _ _ _ _ inferInstance hv2 ?_
      simp(disch:=omega) only[go_sem,Nat.reduceBEq,Nat.reduceAdd]
  | false=>
    (repeat (first |(refine wo rfl (fun k hk=>?_);simp(disch:=omega) only[go_sem,Nat.reduceBEq,Nat.reduceAdd];apply hk;clear hk k) |refine wkt rfl ?_ |with_reducible refine wk0 ?_ |with_reducible refine wt_seg ?_ |with_reducible refine wt_alt ?_ wt_no |with_reducible refine wt_done ?_))
    refine wt_alt ?_ (wt_alt ?_ wt_no)
    · refine cN rfl rfl rfl rfl (by exact list_spec hn (by omega)) ?_;rintro v2 h2 _ hv2;obtain⟨v2,v2_l,v2_c,rfl,hv2⟩:=hv2.sl;(repeat (first |(refine wo rfl (fun k hk=>?_);simp(disch:=omega) only[go_sem,Nat.reduceBEq,Nat.reduceAdd];apply hk;clear hk k) |refine wkt rfl ?_ |with_reducible refine wk0 ?_ |with_reducible refine wt_seg ?_ |with_reducible refine wt_alt ?_ wt_no |with_reducible refine wt_done ?_))
      refine rest _ _ _ _ _ inferInstance hv2 ?_
      simp(disch:=omega) only[go_sem,Nat.reduceBEq,Nat.reduceAdd]
    · (repeat (first |(refine wo rfl (fun k hk=>?_);simp(disch:=omega) only[go_sem,Nat.reduceBEq,Nat.reduceAdd];apply hk;clear hk k) |refine wkt rfl ?_ |with_reducible refine wk0 ?_ |with_reducible refine wt_seg ?_ |with_reducible refine wt_alt ?_ wt_no |with_reducible refine wt_done ?_))
      refine cN rfl rfl rfl rfl (by exact list_spec hn (by omega)) ?_;rintro v2 h2 _ hv2;obtain⟨v2,v2_l,v2_c,rfl,hv2⟩:=hv2.sl;(repeat (first |(refine wo rfl (fun k hk=>?_);simp(disch:=omega) only[go_sem,Nat.reduceBEq,Nat.reduceAdd];apply hk;clear hk k) |refine wkt rfl ?_ |with_reducible refine wk0 ?_ |with_reducible refine wt_seg ?_ |with_reducible refine wt_alt ?_ wt_no |with_reducible refine wt_done ?_))
      refine rest _ _ _ _ _ inferInstance hv2 ?_
      simp(disch:=omega) only[go_sem,Nat.reduceBEq,Nat.reduceAdd]
end Go.Q
namespace Go.Q
open Go.Proofs
set_option maxRecDepth 100000
set_option maxHeartbeats 4000000
theorem W16_len_bl {n k:Nat}:(W 65536 n).length≤k↔bl n≤16*k:=by
  rw[bl_le,B16_pow]
  refine⟨fun h=>?_,fun h=>W_length_le (by decide) h⟩
  exact Nat.lt_of_lt_of_le (lt_W_length (by decide) n) (Nat.pow_le_pow_right (by decide) h)
theorem N16.len {h:PH} {a:Option Addr} {l c n k:Nat} (r:N16 h (.slice a l c) n):l≤k↔bl n≤16*k:=by
  obtain⟨a',c',h1,_⟩:=r
  cases h1
  exact W16_len_bl
theorem Sgn_spec {h0 h:PH} [Le h0 h] {v:Value} {x:Rat} (hx:Qr h0 v x):Spec mach 22 #[v] h (fun v _=>v=.int .i64 (sgn3 x)) NP:=by
  obtain⟨na,nl,nc,da,dl,dc,e,rfl,hn,hd,he⟩:=hx.sl
  have ln:=hn.len0
  refine Spec.go [] Tryz.func22 rfl rfl (by kernel_rfl) fun C _=>?_
  try simp(maxSteps:=999999) (disch:=omega) only[go_sem,Nat.reduceBEq,Nat.reduceAdd]
  by_cases h0:x.num=0
  · have e1:x=0:=Rat.num_eq_zero.1 h0
    try simp(maxSteps:=999999) (disch:=omega) only[go_sem,Nat.reduceBEq,Nat.reduceAdd]
    subst e1;simp[sgn3]
  · by_cases h1:x.num < 0
    · have e1:decide (x.num < 0)=true:=decide_eq_true h1
      try simp(maxSteps:=999999) (disch:=omega) only[go_sem,Nat.reduceBEq,Nat.reduceAdd,e1]
      rw[sgn3,if_pos (num_neg.1 h1)]
    · have e1:decide (x.num < 0)=false:=decide_eq_false h1
      have e2:0 < x.num:=by omega
      try simp(maxSteps:=999999) (disch:=omega) only[go_sem,Nat.reduceBEq,Nat.reduceAdd,e1]
      rw[sgn3,if_neg (fun h=>h1 (num_neg.2 h)),if_pos (num_pos.1 e2)]
theorem Opp_spec {h0 h:PH} [Le h0 h] {v:Value} {x:Rat} (hx:Qr h0 v x):Spec mach 44 #[v] h (fun v h'=>Qr h' v (-x)) NP:=by
  obtain⟨na,nl,nc,da,dl,dc,e,rfl,hn,hd,he⟩:=hx.sl
  have ln:=hn.len0
  have hn2:N16 h0 (.slice na nl nc) (-x).num.natAbs:=by simpa using hn
  refine Spec.go [] Tryz.func44 rfl rfl (by kernel_rfl) fun C _=>?_
  try simp(maxSteps:=999999) (disch:=omega) only[go_sem,Nat.reduceBEq,Nat.reduceAdd]
  by_cases h1:x.num < 0
  · have e1:decide (x.num < 0)=true:=decide_eq_true h1
    have e2:decide ((-x).num < 0)=false:=by rw[Rat.neg_num,decide_eq_false_iff_not];omega
    try simp(maxSteps:=999999) (disch:=omega) only[go_sem,Nat.reduceBEq,Nat.reduceAdd,e1]
    exact⟨_,_,e,by rw[e2],hn2.to,hd.to,he⟩
  · have e1:decide (x.num < 0)=false:=decide_eq_false h1
    by_cases h0:x.num=0
    · have e2:decide ((-x).num < 0)=false:=by rw[Rat.neg_num,decide_eq_false_iff_not];omega
      try simp(maxSteps:=999999) (disch:=omega) only[go_sem,Nat.reduceBEq,Nat.reduceAdd,e1]
      exact⟨_,_,e,by rw[e2],hn2.to,hd.to,he⟩
    · have e2:decide ((-x).num < 0)=true:=by rw[Rat.neg_num,decide_eq_true_eq];omega
      have e3:0 < nl:=by omega
      try simp(maxSteps:=999999) (disch:=omega) only[go_sem,Nat.reduceBEq,Nat.reduceAdd,e1]
      exact⟨_,_,e,by rw[e2],hn2.to,hd.to,he⟩
theorem Sum_spec {h0 h:PH} [Le h0 h] {v w:Value} {x y:Rat} (hx:Qr h0 v x) (hy:Qr h0 w y) (bx:sz x≤2^35) (by_:sz y≤2^35):
    Spec mach 21 #[v,w] h (fun v h'=>Qr h' v (x+y)) NP:=by
  have hx0:=hx
  have hy0:=hy
  obtain⟨na,nl,nc,da,dl,dc,e,rfl,hn,hd,he⟩:=hx.sl
  obtain⟨na',nl',nc',da',dl',dc',e',rfl,hn',hd',he'⟩:=hy.sl
  have b1:=sz_num x;have b2:=sz_den x;have b3:=sz_num y;have b4:=sz_den y
  have b5:=bl_mul x.num.natAbs y.den
  have b6:=bl_mul y.num.natAbs x.den
  have b7:=bl_mul x.den y.den
  have b8:=bl_add (x.num.natAbs*y.den) (y.num.natAbs*x.den)
  have b9:=bl_mono (Nat.sub_le (x.num.natAbs*y.den) (y.num.natAbs*x.den))
  have b10:=bl_mono (Nat.sub_le (y.num.natAbs*x.den) (x.num.natAbs*y.den))
  obtain⟨n1,en1⟩:∃b,decide (x.num < 0)=b:=⟨_,rfl⟩
  obtain⟨n2,en2⟩:∃b,decide (y.num < 0)=b:=⟨_,rfl⟩
  rw[en1] at hx0 ⊢
  rw[en2] at hy0 ⊢
  refine Spec.go [(1,.o [0,1,2,5,6,7,3,4,8,9,10,11]),(2,.o [0,2,1,3,4,5]),(4,.o [0,1,2,3,5,4,6,7]),(6,.o [0,1,2,3,5,4,6,7]),(7,.o [0,1,2,3,5,4,6,7])] Tryz.func21 rfl rfl (by kernel_rfl) fun C _=>?_
  try simp(maxSteps:=999999) (disch:=omega) only[go_sem,Nat.reduceBEq,Nat.reduceAdd]
  refine caN (by exact den_spec hy0) ?_;rintro _ g1 _ hd1;obtain⟨_,_,_,rfl,hd1⟩:=hd1.sl
  try simp(maxSteps:=999999) (disch:=omega) only[go_sem,Nat.reduceBEq,Nat.reduceAdd]
  refine caN (by exact NatMul_spec (hn.to (h':=g1)) hd1 (by omega) (by omega)) ?_;rintro _ h1 _ hv1;obtain⟨v1,_,_,rfl,hv1⟩:=hv1.sl
  try simp(maxSteps:=999999) (disch:=omega) only[go_sem,Nat.reduceBEq,Nat.reduceAdd]
  refine caN (by exact den_spec hx0) ?_;rintro _ g2 _ hd2;obtain⟨_,_,_,rfl,hd2⟩:=hd2.sl
  try simp(maxSteps:=999999) (disch:=omega) only[go_sem,Nat.reduceBEq,Nat.reduceAdd]
  refine caN (by exact NatMul_spec (hn'.to (h':=g2)) hd2 (by omega) (by omega)) ?_;rintro _ h2 _ hv2;obtain⟨v2,_,_,rfl,hv2⟩:=hv2.sl
  try simp(maxSteps:=999999) (disch:=omega) only[go_sem,Nat.reduceBEq,Nat.reduceAdd]
  refine caN (by exact den_spec hx0) ?_;rintro _ g3 _ hd3;obtain⟨_,_,_,rfl,hd3⟩:=hd3.sl
  try simp(maxSteps:=999999) (disch:=omega) only[go_sem,Nat.reduceBEq,Nat.reduceAdd]
  refine caN (by exact den_spec hy0) ?_;rintro _ g4 _ hd4;obtain⟨_,_,_,rfl,hd4⟩:=hd4.sl
  try simp(maxSteps:=999999) (disch:=omega) only[go_sem,Nat.reduceBEq,Nat.reduceAdd]
  refine caN (by exact NatMul_spec (hd3.to (h':=g4)) hd4 (by omega) (by omega)) ?_;rintro _ h3 _ hv3;obtain⟨v3,_,_,rfl,hv3⟩:=hv3.sl
  try simp(maxSteps:=999999) (disch:=omega) only[go_sem,Nat.reduceBEq,Nat.reduceAdd]
  by_cases hee:n1=n2
  · subst hee
    try simp(maxSteps:=999999) (disch:=omega) only[go_sem,Nat.reduceBEq,Nat.reduceAdd]
    refine caN (by exact NatAdd_spec (hv1.to (h':=h2)) hv2 (by omega) (by omega)) ?_;rintro _ h4 _ hv4;obtain⟨v4,_,_,rfl,hv4⟩:=hv4.sl
    try simp(maxSteps:=999999) (disch:=omega) only[go_sem,Nat.reduceBEq,Nat.reduceAdd]
    refine caN (by exact Make_spec (hv4.to (h':=h4)) hv3.to (by omega) (by omega)) ?_;rintro _ h5 _ hv5;obtain⟨_,_,_,_,_,_,_,rfl,hv5⟩:=hv5.sa
    try simp(maxSteps:=999999) (disch:=omega) only[go_sem,Nat.reduceBEq,Nat.reduceAdd]
    rw[sgn_same en1 en2] at hv5
    exact hv5
  · have hb:(n1 == n2)=false:=by cases n1<;>cases n2<;>simp_all
    have hb':n2=!n1:=by cases n1<;>cases n2<;>simp_all
    try simp(maxSteps:=999999) (disch:=omega) only[go_sem,Nat.reduceBEq,Nat.reduceAdd,hb]
    refine caN (by exact NatCmp_spec (hv1.to (h':=h2)) hv2) ?_;rintro v4 h4 s4 rfl
    try simp(maxSteps:=999999) (disch:=omega) only[go_sem,Nat.reduceBEq,Nat.reduceAdd]
    by_cases hle:y.num.natAbs*x.den≤x.num.natAbs*y.den
    · have hc:0≤cmp3 (x.num.natAbs*y.den) (y.num.natAbs*x.den):=by simp only[cmp3,if_neg (Nat.not_lt.2 hle)];split<;>decide
      try simp(maxSteps:=999999) (disch:=omega) only[go_sem,Nat.reduceBEq,Nat.reduceAdd]
      refine caN (by exact NatSub_spec (hv1.to (h':=h2)) hv2 hle (by omega)) ?_;rintro _ h5 _ hv5;obtain⟨v5,_,_,rfl,hv5⟩:=hv5.sl
      try simp(maxSteps:=999999) (disch:=omega) only[go_sem,Nat.reduceBEq,Nat.reduceAdd]
      refine caN (by exact Make_spec (hv5.to (h':=h5)) hv3.to (by omega) (by omega)) ?_;rintro _ h6 _ hv6;obtain⟨_,_,_,_,_,_,_,rfl,hv6⟩:=hv6.sa
      try simp(maxSteps:=999999) (disch:=omega) only[go_sem,Nat.reduceBEq,Nat.reduceAdd]
      rw[sgn_diff en1 (by rw[en2,hb']) hle] at hv6
      exact hv6
    · have hc:¬0≤cmp3 (x.num.natAbs*y.den) (y.num.natAbs*x.den):=by simp only[cmp3,if_pos (Nat.not_le.1 hle)];decide
      try simp(maxSteps:=999999) (disch:=omega) only[go_sem,Nat.reduceBEq,Nat.reduceAdd]
      refine caN (by exact NatSub_spec (hv2.to (h':=h2)) (hv1.to (h':=h2)) (Nat.le_of_lt (Nat.not_le.1 hle)) (by omega)) ?_;rintro _ h5 _ hv5;obtain⟨v5,_,_,rfl,hv5⟩:=hv5.sl
      try simp(maxSteps:=999999) (disch:=omega) only[go_sem,Nat.reduceBEq,Nat.reduceAdd]
      refine caN (by exact Make_spec (hv5.to (h':=h5)) hv3.to (by omega) (by omega)) ?_;rintro _ h6 _ hv6;obtain⟨_,_,_,_,_,_,_,rfl,hv6⟩:=hv6.sa
      try simp(maxSteps:=999999) (disch:=omega) only[go_sem,Nat.reduceBEq,Nat.reduceAdd]
      rw[Nat.mul_comm x.den,sgn_diff en2 (by rw[en1,hb',Bool.not_not]) (Nat.le_of_lt (Nat.not_le.1 hle)),Rat.add_comm] at hv6
      exact hv6
theorem Diff_spec {h0 h:PH} [Le h0 h] {v w:Value} {x y:Rat} (hx:Qr h0 v x) (hy:Qr h0 w y) (bx:sz x≤2^35) (by_:sz y≤2^35):
    Spec mach 13 #[v,w] h (fun v h'=>Qr h' v (x - y)) NP:=by
  obtain⟨_,_,_,_,_,_,_,rfl,hx⟩:=hx.sa
  obtain⟨_,_,_,_,_,_,_,rfl,hy⟩:=hy.sa
  refine Spec.go [] Tryz.func13 rfl rfl (by kernel_rfl) fun C _=>?_
  try simp(maxSteps:=999999) (disch:=omega) only[go_sem,Nat.reduceBEq,Nat.reduceAdd]
  refine caN (by exact Opp_spec hy) ?_;rintro _ h1 _ hv1;obtain⟨_,_,_,_,_,_,_,rfl,hv1⟩:=hv1.sa
  try simp(maxSteps:=999999) (disch:=omega) only[go_sem,Nat.reduceBEq,Nat.reduceAdd]
  refine caN (by exact Sum_spec (hx.to (h':=h1)) hv1 bx (by rw[sz_neg];exact by_)) ?_;rintro _ h2 _ hv2;obtain⟨_,_,_,_,_,_,_,rfl,hv2⟩:=hv2.sa
  try simp(maxSteps:=999999) (disch:=omega) only[go_sem,Nat.reduceBEq,Nat.reduceAdd]
  rw[Rat.sub_eq_add_neg];exact hv2
theorem sgn3_sub (x y:Rat):sgn3 (x - y)=cmpQ x y:=by
  unfold sgn3 cmpQ;grind
theorem QCmp_spec {h0 h:PH} [Le h0 h] {v w:Value} {x y:Rat} (hx:Qr h0 v x) (hy:Qr h0 w y) (bx:sz x≤2^34) (by_:sz y≤2^34):
    Spec mach 12 #[v,w] h (fun v _=>v=.int .i64 (cmpQ x y)) NP:=by
  obtain⟨_,_,_,_,_,_,_,rfl,hx⟩:=hx.sa
  obtain⟨_,_,_,_,_,_,_,rfl,hy⟩:=hy.sa
  refine Spec.go [] Tryz.func12 rfl rfl (by kernel_rfl) fun C _=>?_
  try simp(maxSteps:=999999) (disch:=omega) only[go_sem,Nat.reduceBEq,Nat.reduceAdd]
  refine caN (by exact Diff_spec hx hy (by omega) (by omega)) ?_;rintro _ h1 _ hv1;obtain⟨_,_,_,_,_,_,_,rfl,hv1⟩:=hv1.sa
  try simp(maxSteps:=999999) (disch:=omega) only[go_sem,Nat.reduceBEq,Nat.reduceAdd]
  refine caN (by exact Sgn_spec hv1) ?_;rintro v2 h2 s2 rfl
  try simp(maxSteps:=999999) (disch:=omega) only[go_sem,Nat.reduceBEq,Nat.reduceAdd]
  rw[sgn3_sub]
end Go.Q
namespace Go.Q
open Go.Proofs
set_option maxRecDepth 100000
set_option maxHeartbeats 4000000
theorem sz_two (p:Nat):sz ((2:Rat)^p)≤p+1:=by
  unfold sz
  have h1:((2:Rat)^p).num.natAbs=2^p:=by simp[Int.natAbs_pow]
  have h2:((2:Rat)^p).den=1:=by simp
  rw[h1,h2]
  have:=bl_pow2 p
  have h3:bl 1=1:=by decide
  omega
theorem sz_scale (x:Rat) (p:Nat):sz (x*2^p)≤sz x+p+1:=by
  have:=sz_mul x (2^p);have:=sz_two p;omega
theorem sz_unscale (x:Rat) (p:Nat):sz (x / 2^p)≤sz x+p+1:=by
  rw[Rat.div_def]
  have:=sz_mul x (2^p)⁻¹;have:=sz_inv ((2:Rat)^p);have:=sz_two p;omega
theorem sz_pos (x:Rat):1≤sz x:=by
  have h1:bl 1≤bl x.den:=bl_mono (Nat.pos_of_ne_zero x.den_nz)
  have h2:bl 1=1:=by decide
  have:=sz_den x;omega
theorem sz_int (n:Int):sz (n:Rat)≤max (bl n.natAbs) 1:=by
  unfold sz
  rw[Rat.num_intCast,Rat.den_intCast,show bl 1=1 from by decide]
  exact Nat.le_refl _
theorem sz_floor (x:Rat):sz (x.floor:Rat)≤sz x:=by
  have h1:=sz_int x.floor
  have h2:x.floor.natAbs≤x.num.natAbs:=by rw[Rat.floor_def];exact Int.natAbs_ediv_le_natAbs _ _
  have h3:=bl_mono h2
  have:=sz_num x;have:=sz_pos x;omega
end Go.Q
namespace Go.Q
open Go.Proofs
set_option maxRecDepth 100000
set_option maxHeartbeats 4000000
theorem sgn_quo (x y:Rat):sgn (!(decide (x.num < 0) == decide (y.num < 0))) (x.num.natAbs*y.den) (x.den*y.num.natAbs)=x / y:=by
  by_cases hy:y=0
  · subst hy
    simp[sgn,Rat.div_def]
  · have hn0:y.num≠0:=fun e=>hy (Rat.num_eq_zero.1 e)
    have hp:=y.den_nz
    have e1:decide ((y⁻¹).num < 0)=decide (y.num < 0):=by
      rw[Rat.num_inv]
      rcases Int.lt_trichotomy y.num 0 with h |h |h
      · rw[Int.sign_eq_neg_one_of_neg h,decide_eq_decide];omega
      · exact(hn0 h).elim
      · rw[Int.sign_eq_one_of_pos h,decide_eq_decide];omega
    have e2:(y⁻¹).num.natAbs=y.den:=by rw[Rat.num_inv,Int.natAbs_mul,Int.natAbs_sign_of_ne_zero hn0,Nat.one_mul,Int.natAbs_natCast]
    have e3:(y⁻¹).den=y.num.natAbs:=by rw[Rat.den_inv,if_neg hn0]
    have:=sgn_mul x y⁻¹
    rw[e1,e2,e3] at this
    rw[this,Rat.div_def]
theorem QDiv_spec {h0 h:PH} [Le h0 h] {v w:Value} {x y:Rat} (hx:Qr h0 v x) (hy:Qr h0 w y) (bx:sz x≤2^35) (by_:sz y≤2^35):
    Spec mach 24 #[v,w] h (fun v h'=>Qr h' v (x / y)) NP:=by
  have hx0:=hx
  have hy0:=hy
  obtain⟨na,nl,nc,da,dl,dc,e,rfl,hn,hd,he⟩:=hx.sl
  obtain⟨na',nl',nc',da',dl',dc',e',rfl,hn',hd',he'⟩:=hy.sl
  have b1:=sz_num x;have b2:=sz_den x;have b3:=sz_num y;have b4:=sz_den y
  have b5:=bl_mul x.num.natAbs y.den
  have b6:=bl_mul x.den y.num.natAbs
  refine Spec.enter (args:=[_,_]) (n:=21) Tryz.func24 rfl (by kernel_rfl) rfl (by simp) [.cell 4 33] rfl (fun C _=>?_)
  repeat (first |(refine wo rfl (fun k hk=>?_);simp(disch:=omega) only[go_sem,Nat.reduceBEq,Nat.reduceAdd];apply hk;clear hk k) |refine wkt rfl ?_ |refine wk0 ?_ |refine rg rfl rfl (fun K hK=>?_) |refine rd [.o 0,.o 1,.o 2,.o 3,.o 4,.o 5,.o 6,.o 7,.o 10,.o 12,.o 13,.o 8,.o 9,.o 11,.o 14,.o 15,.o 16] rfl (by decide+kernel) rfl (fun K hK=>?_) |((first |refine AWP_exit ?_ |refine AWP_skip ?_);simp(disch:=decide) only[qs,qb,if_true,if_false,reduceIte]) |refine AWP_sq rfl (fun K hK=>?_) |refine ct rfl ?_ |((try simp(disch:=omega) only[go_sem,Nat.reduceBEq,Nat.reduceAdd]);(first |apply hK |(clear hK;apply hK) |(clear hK;clear hK;apply hK));clear hK;(try clear K);(try dsimp only[behind,qs,qb])))
  refine cN rfl rfl rfl rfl (by exact den_spec hy0) ?_;rintro d1 g1 _ hd1;obtain⟨d1,d1_l,d1_c,rfl,hd1⟩:=hd1.sl;(repeat (first |(refine wo rfl (fun k hk=>?_);simp(disch:=omega) only[go_sem,Nat.reduceBEq,Nat.reduceAdd];apply hk;clear hk k) |refine wkt rfl ?_));(try refine wk0 ?_)
  refine cN rfl rfl rfl rfl (by exact NatMul_spec (hn.to (h':=g1)) hd1 (by omega) (by omega)) ?_;rintro v1 h1 _ hv1;obtain⟨v1,v1_l,v1_c,rfl,hv1⟩:=hv1.sl;(repeat (first |(refine wo rfl (fun k hk=>?_);simp(disch:=omega) only[go_sem,Nat.reduceBEq,Nat.reduceAdd];apply hk;clear hk k) |refine wkt rfl ?_));(try refine wk0 ?_)
  refine cN rfl rfl rfl rfl (by exact den_spec hx0) ?_;rintro d2 g2 _ hd2;obtain⟨d2,d2_l,d2_c,rfl,hd2⟩:=hd2.sl;(repeat (first |(refine wo rfl (fun k hk=>?_);simp(disch:=omega) only[go_sem,Nat.reduceBEq,Nat.reduceAdd];apply hk;clear hk k) |refine wkt rfl ?_));(try refine wk0 ?_)
  refine cN rfl rfl rfl rfl (by exact NatMul_spec hd2 (hn'.to (h':=g2)) (by omega) (by omega)) ?_;rintro v2 h2 _ hv2;obtain⟨v2,v2_l,v2_c,rfl,hv2⟩:=hv2.sl;(repeat (first |(refine wo rfl (fun k hk=>?_);simp(disch:=omega) only[go_sem,Nat.reduceBEq,Nat.reduceAdd];apply hk;clear hk k) |refine wkt rfl ?_));(try refine wk0 ?_)
  refine cN rfl rfl rfl rfl (by exact Make_spec (hv1.to (h':=h2)) hv2 (by omega) (by omega)) ?_;rintro v3 h3 _ hv3;obtain⟨v3_0,v3_1,v3_2,v3_3,v3_4,v3_5,v3_6,rfl,hv3⟩:=hv3.sa;(repeat (first |(refine wo rfl (fun k hk=>?_);simp(disch:=omega) only[go_sem,Nat.reduceBEq,Nat.reduceAdd];apply hk;clear hk k) |refine wkt rfl ?_));(try refine wk0 ?_)
  (try (simp(disch:=omega) only[go_sem,Nat.reduceBEq,Nat.reduceAdd]));apply hK;clear hK;(try clear K);(try dsimp only[behind,qs])
  refine AWP_ret ?_;simp(disch:=omega) only[go_sem,Nat.reduceBEq,Nat.reduceAdd]
  rw[sgn_quo] at hv3
  exact hv3
theorem Least_spec {h0 h:PH} [Le h0 h] {v w:Value} {x y:Rat} (hx:Qr h0 v x) (hy:Qr h0 w y) (bx:sz x≤2^34) (by_:sz y≤2^34):
    Spec mach 16 #[v,w] h (fun v h'=>Qr h' v (min x y)) NP:=by
  obtain⟨_,_,_,_,_,_,_,rfl,hx⟩:=hx.sa
  obtain⟨_,_,_,_,_,_,_,rfl,hy⟩:=hy.sa
  refine Spec.enter (args:=[_,_]) (n:=11) Tryz.func16 rfl (by kernel_rfl) rfl (by simp) [.cell 4 33] rfl (fun C _=>?_)
  repeat (first |(refine wo rfl (fun k hk=>?_);simp(disch:=omega) only[go_sem,Nat.reduceBEq,Nat.reduceAdd];apply hk;clear hk k) |refine wkt rfl ?_ |refine wk0 ?_ |refine rg rfl rfl (fun K hK=>?_) |((first |refine AWP_exit ?_ |refine AWP_skip ?_);simp(disch:=decide) only[qs,qb,if_true,if_false,reduceIte]) |refine AWP_sq rfl (fun K hK=>?_) |refine ct rfl ?_ |((try simp(disch:=omega) only[go_sem,Nat.reduceBEq,Nat.reduceAdd]);(first |apply hK |(clear hK;apply hK) |(clear hK;clear hK;apply hK));clear hK;(try clear K);(try dsimp only[behind,qs,qb])))
  refine cN rfl rfl rfl rfl (by exact QCmp_spec hy hx by_ bx) ?_;rintro v1 h1 s1 rfl;(repeat (first |(refine wo rfl (fun k hk=>?_);simp(disch:=omega) only[go_sem,Nat.reduceBEq,Nat.reduceAdd];apply hk;clear hk k) |refine wkt rfl ?_));(try refine wk0 ?_)
  by_cases hc:y < x
  · have e1:cmpQ y x < 0:=by simp[cmpQ,hc]
    repeat (first |(refine wo rfl (fun k hk=>?_);simp(disch:=omega) only[go_sem,Nat.reduceBEq,Nat.reduceAdd];apply hk;clear hk k) |refine wkt rfl ?_ |refine wk0 ?_ |refine rg rfl rfl (fun K hK=>?_) |((first |refine AWP_exit ?_ |refine AWP_skip ?_);simp(disch:=decide) only[qs,qb,if_true,if_false,reduceIte]) |refine AWP_sq rfl (fun K hK=>?_) |refine ct rfl ?_ |((try simp(disch:=omega) only[go_sem,Nat.reduceBEq,Nat.reduceAdd]);(first |apply hK |(clear hK;apply hK) |(clear hK;clear hK;apply hK));clear hK;(try clear K);(try dsimp only[behind,qs,qb])))
    refine AWP_ret ?_;simp(disch:=omega) only[go_sem,Nat.reduceBEq,Nat.reduceAdd]
    have:min x y=y:=by grind
    rw[this];exact hy.to
  · have e1:¬cmpQ y x < 0:=by unfold cmpQ;rw[if_neg hc];split<;>decide
    repeat (first |(refine wo rfl (fun k hk=>?_);simp(disch:=omega) only[go_sem,Nat.reduceBEq,Nat.reduceAdd];apply hk;clear hk k) |refine wkt rfl ?_ |refine wk0 ?_ |refine rg rfl rfl (fun K hK=>?_) |((first |refine AWP_exit ?_ |refine AWP_skip ?_);simp(disch:=decide) only[qs,qb,if_true,if_false,reduceIte]) |refine AWP_sq rfl (fun K hK=>?_) |refine ct rfl ?_ |((try simp(disch:=omega) only[go_sem,Nat.reduceBEq,Nat.reduceAdd]);(first |apply hK |(clear hK;apply hK) |(clear hK;clear hK;apply hK));clear hK;(try clear K);(try dsimp only[behind,qs,qb])))
    refine AWP_ret ?_;simp(disch:=omega) only[go_sem,Nat.reduceBEq,Nat.reduceAdd]
    have:min x y=x:=by grind
    rw[this];exact hx.to
theorem Canonical_cn {h0 h:PH} [Le h0 h] {v:Value} {x:Rat} (hx:Cn h0 v x) (bx:sz x≤2^30):Spec mach 81 #[v] h (fun v _=>v=.bool true) NP:=by
  have hrw:=hx.rw bx
  have hq:=qof_cn x
  obtain⟨sn,sd,rfl,h2,h3⟩:=hx
  obtain⟨a,c,xs,rfl,ha,hxs,hxm⟩:=h2.out
  obtain⟨a',c',ys,rfl,ha',hys,hym⟩:=h3.out
  have sx:=ha.small
  have sy:=ha'.small
  obtain⟨neg,en⟩:∃b,decide (x.num < 0)=b:=⟨_,rfl⟩
  rw[en] at hrw hq ⊢
  refine Spec.enter (args:=[_]) (n:=68) Tryz.func81 rfl (by kernel_rfl) rfl (by simp) [.tmp 2] rfl (fun C _=>?_)
  repeat (first |(refine wo rfl (fun k hk=>?_);simp(disch:=omega) only[go_sem,Nat.reduceBEq,Nat.reduceAdd];apply hk;clear hk k) |refine wkt rfl ?_ |refine wk0 ?_ |refine rg rfl rfl (fun K hK=>?_) |refine rd [.o 0,.o 1,.o 2,.o 3,.o 4,.o 5,.o 6,.o 7,.o 8,.o 9,.o 10] rfl (by decide+kernel) rfl (fun K hK=>?_) |((first |refine AWP_exit ?_ |refine AWP_skip ?_);simp(disch:=decide) only[qs,qb,if_true,if_false,reduceIte]) |refine AWP_sq rfl (fun K hK=>?_) |refine ct rfl ?_ |((try simp(disch:=omega) only[go_sem,Nat.reduceBEq,Nat.reduceAdd]);(first |apply hK |(clear hK;apply hK) |(clear hK;clear hK;apply hK));clear hK;(try clear K);(try dsimp only[behind,qs,qb])))
  refine cN rfl rfl rfl rfl (by exact QOf_spec hrw) ?_;rintro v1 h1 _ hv1;obtain⟨v1_0,v1_1,v1_2,v1_3,v1_4,v1_5,v1_6,rfl,hv1⟩:=hv1.sa;(repeat (first |(refine wo rfl (fun k hk=>?_);simp(disch:=omega) only[go_sem,Nat.reduceBEq,Nat.reduceAdd];apply hk;clear hk k) |refine wkt rfl ?_));(try refine wk0 ?_)
  rw[hq] at hv1
  refine cN rfl rfl rfl rfl (by exact QRat_spec hv1 (by omega)) ?_;rintro v2 h2' s2 hv2;(repeat (first |(refine wo rfl (fun k hk=>?_);simp(disch:=omega) only[go_sem,Nat.reduceBEq,Nat.reduceAdd];apply hk;clear hk k) |refine wkt rfl ?_));(try refine wk0 ?_)
  obtain⟨tn,td,rfl,t2,t3⟩:=hv2
  rw[en]
  obtain⟨ta,tc,ts,rfl,hta,hts,_⟩:=t2.out
  obtain rfl:xs=ts:=hxs.symm.trans hts
  obtain⟨ta',tc',ts',rfl,hta',hts',_⟩:=t3.out
  obtain rfl:ys=ts':=hys.symm.trans hts'
  (repeat (first |(refine wo rfl (fun k hk=>?_);simp(disch:=omega) only[go_sem,Nat.reduceBEq,Nat.reduceAdd];apply hk;clear hk k) |refine wkt rfl ?_));(try refine wk0 ?_)
  have e0:(neg == neg)=true:=by simp
  repeat (first |(refine wo rfl (fun k hk=>?_);simp(disch:=omega) only[go_sem,Nat.reduceBEq,Nat.reduceAdd,e0];apply hk;clear hk k) |refine wkt rfl ?_ |refine wk0 ?_ |refine rg rfl rfl (fun K hK=>?_) |refine rd [.o 0,.o 1,.o 2,.o 3,.o 4,.o 5,.o 6,.o 7,.o 8,.o 9,.o 10] rfl (by decide+kernel) rfl (fun K hK=>?_) |((first |refine AWP_exit ?_ |refine AWP_skip ?_);simp(disch:=decide) only[qs,qb,if_true,if_false,reduceIte]) |refine AWP_sq rfl (fun K hK=>?_) |refine ct rfl ?_ |((try simp(disch:=omega) only[go_sem,Nat.reduceBEq,Nat.reduceAdd]);(first |apply hK |(clear hK;apply hK) |(clear hK;clear hK;apply hK));clear hK;(try clear K);(try dsimp only[behind,qs,qb])))
  refine AWP_loop (fun i:Nat=>⟨[(1,.p 0 0),(3,.p 1 0),(34,.v (.int .i64 xs.length)),(35,.v (.int .i64 i))],[[.bool neg,.slice a xs.length c,.slice a' ys.length c'],[.bool neg,.slice ta xs.length tc,.slice ta' ys.length tc']]⟩)
    (fun i h'=>Le h2' h'∧Le h0 h'∧i≤xs.length) (fun i=>xs.length - i) 0 ?_ ⟨inferInstance,inferInstance,by omega⟩ ?_
  · simp(disch:=omega) only[go_sem,Nat.reduceBEq,Nat.reduceAdd]
  rintro i g1 ⟨hle,hle0,hi⟩
  by_cases hil:i < xs.length
  · obtain⟨ad,rfl,hat⟩:=ha.rd g1 (i:=i) (by omega)
    obtain⟨ad',rfl,hat'⟩:=hta.rd g1 (i:=i) (by omega)
    repeat (first |(refine wo rfl (fun k hk=>?_);simp(disch:=omega) only[go_sem,Nat.reduceBEq,Nat.reduceAdd,hat,hat'];apply hk;clear hk k) |refine wkt rfl ?_ |refine wk0 ?_ |refine rg rfl rfl (fun K hK=>?_) |refine rd [.o 0,.o 1,.o 2,.o 3,.o 4,.o 5,.o 6,.o 7,.o 8,.o 9,.o 10] rfl (by decide+kernel) rfl (fun K hK=>?_) |((first |refine AWP_exit ?_ |refine AWP_skip ?_);simp(disch:=decide) only[qs,qb,if_true,if_false,reduceIte]) |refine AWP_sq rfl (fun K hK=>?_) |refine ct rfl ?_ |((try simp(disch:=omega) only[go_sem,Nat.reduceBEq,Nat.reduceAdd]);(first |apply hK |(clear hK;apply hK) |(clear hK;clear hK;apply hK));clear hK;(try clear K);(try dsimp only[behind,qs,qb])))
    refine⟨i+1,?_,⟨hle,hle0,by omega⟩,by omega⟩
    simp(disch:=omega) only[go_sem,Nat.reduceBEq,Nat.reduceAdd]
  · repeat (first |(refine wo rfl (fun k hk=>?_);simp(disch:=omega) only[go_sem,Nat.reduceBEq,Nat.reduceAdd];apply hk;clear hk k) |refine wkt rfl ?_ |refine wk0 ?_ |refine rg rfl rfl (fun K hK=>?_) |refine rd [.o 0,.o 1,.o 2,.o 3,.o 4,.o 5,.o 6,.o 7,.o 8,.o 9,.o 10] rfl (by decide+kernel) rfl (fun K hK=>?_) |((first |refine AWP_exit ?_ |refine AWP_skip ?_);simp(disch:=decide) only[qs,qb,if_true,if_false,reduceIte]) |refine AWP_sq rfl (fun K hK=>?_) |refine ct rfl ?_ |((try simp(disch:=omega) only[go_sem,Nat.reduceBEq,Nat.reduceAdd]);(first |apply hK |(clear hK;apply hK) |(clear hK;clear hK;apply hK));clear hK;(try clear K);(try dsimp only[behind,qs,qb])))
    refine AWP_loop (fun i:Nat=>⟨[(1,.p 0 0),(3,.p 1 0),(52,.v (.int .i64 ys.length)),(53,.v (.int .i64 i))],[[.bool neg,.slice a xs.length c,.slice a' ys.length c'],[.bool neg,.slice ta xs.length tc,.slice ta' ys.length tc']]⟩)
      (fun i h'=>Le h2' h'∧Le h0 h'∧i≤ys.length) (fun i=>ys.length - i) 0 ?_ ⟨hle,hle0,by omega⟩ ?_
    · simp(disch:=omega) only[go_sem,Nat.reduceBEq,Nat.reduceAdd]
    rintro i g2 ⟨hle,hle0,hi⟩
    by_cases hil:i < ys.length
    · obtain⟨ad,rfl,hat⟩:=ha'.rd g2 (i:=i) (by omega)
      obtain⟨ad',rfl,hat'⟩:=hta'.rd g2 (i:=i) (by omega)
      repeat (first |(refine wo rfl (fun k hk=>?_);simp(disch:=omega) only[go_sem,Nat.reduceBEq,Nat.reduceAdd,hat,hat'];apply hk;clear hk k) |refine wkt rfl ?_ |refine wk0 ?_ |refine rg rfl rfl (fun K hK=>?_) |refine rd [.o 0,.o 1,.o 2,.o 3,.o 4,.o 5,.o 6,.o 7,.o 8,.o 9,.o 10] rfl (by decide+kernel) rfl (fun K hK=>?_) |((first |refine AWP_exit ?_ |refine AWP_skip ?_);simp(disch:=decide) only[qs,qb,if_true,if_false,reduceIte]) |refine AWP_sq rfl (fun K hK=>?_) |refine ct rfl ?_ |((try simp(disch:=omega) only[go_sem,Nat.reduceBEq,Nat.reduceAdd]);(first |apply hK |(clear hK;apply hK) |(clear hK;clear hK;apply hK));clear hK;(try clear K);(try dsimp only[behind,qs,qb])))
      refine⟨i+1,?_,⟨hle,hle0,by omega⟩,by omega⟩
      simp(disch:=omega) only[go_sem,Nat.reduceBEq,Nat.reduceAdd]
    · repeat (first |(refine wo rfl (fun k hk=>?_);simp(disch:=omega) only[go_sem,Nat.reduceBEq,Nat.reduceAdd];apply hk;clear hk k) |refine wkt rfl ?_ |refine wk0 ?_ |refine rg rfl rfl (fun K hK=>?_) |refine rd [.o 0,.o 1,.o 2,.o 3,.o 4,.o 5,.o 6,.o 7,.o 8,.o 9,.o 10] rfl (by decide+kernel) rfl (fun K hK=>?_) |((first |refine AWP_exit ?_ |refine AWP_skip ?_);simp(disch:=decide) only[qs,qb,if_true,if_false,reduceIte]) |refine AWP_sq rfl (fun K hK=>?_) |refine ct rfl ?_ |((try simp(disch:=omega) only[go_sem,Nat.reduceBEq,Nat.reduceAdd]);(first |apply hK |(clear hK;apply hK) |(clear hK;clear hK;apply hK));clear hK;(try clear K);(try dsimp only[behind,qs,qb])))
      refine AWP_ret ?_;simp(disch:=omega) only[go_sem,Nat.reduceBEq,Nat.reduceAdd]
end Go.Q
namespace Go.Q
open Go.Proofs
set_option maxRecDepth 100000
theorem emod_two (s:Int):((s % 18446744073709551616).toNat % 2:Nat)=(s % 2).toNat:=by omega
theorem and_one {k:Nat}:andI .i64 (k:Int) 1=((k % 2:Nat):Int):=by
  unfold andI
  rw[BitVec.toNat_and]
  have e1:(BitVec.ofInt IntKind.i64.bits (k:Int)).toNat=((k:Int) % 18446744073709551616).toNat:=by rw[BitVec.toNat_ofInt];rfl
  have e2:(BitVec.ofInt IntKind.i64.bits 1).toNat=2^1 - 1:=by decide
  rw[e1,e2,Nat.and_two_pow_sub_one_eq_mod,show(2:Nat)^1=2 from rfl,emod_two,IntKind.wrap_i64]
  omega
theorem shr_one {k:Nat}:(k:Int).fdiv (2^min (Int.toNat 1) 64)=((k / 2:Nat):Int):=by
  rw[show(2:Int)^min (Int.toNat 1) 64=2 from rfl,Int.fdiv_eq_ediv_of_nonneg _ (by decide)];omega
theorem npow_odd {a o k p:Nat} (hm:k % 2=1) (h:o*a^k=p):o*a*(a*a)^(k / 2)=p:=by
  obtain⟨j,rfl⟩:∃j,k=2*j+1:=⟨k / 2,by omega⟩
  rw[show(2*j+1) / 2=j by omega,←h,Nat.pow_succ,Nat.pow_mul,Nat.pow_two,Nat.mul_assoc,Nat.mul_comm ((a*a)^j) a]
theorem npow_even {a o k p:Nat} (hm:k % 2=0) (h:o*a^k=p):o*(a*a)^(k / 2)=p:=by
  obtain⟨j,rfl⟩:∃j,k=2*j:=⟨k / 2,by omega⟩
  rw[show(2*j) / 2=j by omega,←h,Nat.pow_mul,Nat.pow_two]
theorem npow_bits {a o k B:Nat} (h:bl o+bl a*k≤B) (hk:k≠0):bl a+bl o≤B∧bl (o*a)+bl (a*a)*(k / 2)≤B+(bl a - bl a*(k % 2))∧bl o+bl (a*a)*(k / 2)≤B:=by
  have h1:=bl_mul o a
  have h2:=bl_mul a a
  have h3:bl (a*a)*(k / 2)≤(bl a+bl a)*(k / 2):=Nat.mul_le_mul_right _ h2
  have h4:bl a*k=bl a*(2*(k / 2))+bl a*(k % 2):=by rw[←Nat.mul_add];congr 1;omega
  have h5:(bl a+bl a)*(k / 2)=bl a*(2*(k / 2)):=by rw[←Nat.two_mul,Nat.mul_comm 2,Nat.mul_assoc]
  have h6:bl a≤bl a*k:=Nat.le_mul_of_pos_right _ (by omega)
  rcases(show k % 2=0∨k % 2=1 by omega) with e |e<;>rw[e] at h4 ⊢<;>omega
theorem NPow_spec {h0 h:PH} [Le h0 h] {v:Value} {m n:Nat} (hv:N32 h0 v m) (hn:n≤2^20) (bm:bl m*n≤2^36):Spec mach 148 #[v,.int .i64 n] h (fun v h'=>N32 h' v (m^n)) NP:=by
  refine Spec.enter (args:=[_,_]) (n:=23) Tryz.func148 rfl (by kernel_rfl) rfl (by simp) [.tmp 4] rfl (fun C _=>?_)
  repeat (first |(refine wo rfl (fun k hk=>?_);simp(disch:=omega) only[go_sem,Nat.reduceBEq,Nat.reduceAdd];apply hk;clear hk k) |refine wkt rfl ?_ |refine wk0 ?_ |refine rg rfl rfl (fun K hK=>?_) |((first |refine AWP_exit ?_ |refine AWP_skip ?_);simp(disch:=decide) only[qs,qb,if_true,if_false,reduceIte]) |refine AWP_sq rfl (fun K hK=>?_) |refine ct rfl ?_ |((try simp(disch:=omega) only[go_sem,Nat.reduceBEq,Nat.reduceAdd]);(first |apply hK |(clear hK;apply hK) |(clear hK;clear hK;apply hK));clear hK;(try clear K);(try dsimp only[behind,qs,qb])))
  refine cN rfl rfl rfl rfl (by exact Small_spec (n:=1) (by decide)) ?_;rintro o1 h1 s1 ho1
  repeat (first |(refine wo rfl (fun k hk=>?_);simp(disch:=omega) only[go_sem,Nat.reduceBEq,Nat.reduceAdd];apply hk;clear hk k) |refine wkt rfl ?_ |refine wk0 ?_ |refine rg rfl rfl (fun K hK=>?_) |((first |refine AWP_exit ?_ |refine AWP_skip ?_);simp(disch:=decide) only[qs,qb,if_true,if_false,reduceIte]) |refine AWP_sq rfl (fun K hK=>?_) |refine ct rfl ?_ |((try simp(disch:=omega) only[go_sem,Nat.reduceBEq,Nat.reduceAdd]);(first |apply hK |(clear hK;apply hK) |(clear hK;clear hK;apply hK));clear hK;(try clear K);(try dsimp only[behind,qs,qb])))
  refine AWP_loop (fun x:Value×Value×Nat×Nat×Nat=>⟨[(0,.v x.1),(1,.v (.int .i64 (x.2.2.2.2:Nat))),(5,.v x.2.1)],[]⟩)
    (fun x h'=>N32 h' x.1 x.2.2.1∧N32 h' x.2.1 x.2.2.2.1∧x.2.2.2.2≤2^20∧bl x.2.2.2.1+bl x.2.2.1*x.2.2.2.2≤1+bl m*n∧x.2.2.2.1*x.2.2.1^x.2.2.2.2=m^n)
    (fun x=>x.2.2.2.2) (v,o1,m,1,n) ?_ ⟨hv.to,ho1,hn,by rw[bl_one];exact Nat.le_refl _,by rw[Nat.one_mul]⟩ ?_
  · simp(disch:=omega) only[go_sem,Nat.reduceBEq,Nat.reduceAdd]
  · rintro⟨va,vo,a,o,k⟩ h2 ⟨ha,ho,hk,hb,he⟩
    dsimp only at ha ho hk hb he ⊢
    by_cases hk0:k=0
    · repeat (first |(refine wo rfl (fun k hk=>?_);simp(disch:=omega) only[go_sem,Nat.reduceBEq,Nat.reduceAdd];apply hk;clear hk k) |refine wkt rfl ?_ |refine wk0 ?_ |refine rg rfl rfl (fun K hK=>?_) |((first |refine AWP_exit ?_ |refine AWP_skip ?_);simp(disch:=decide) only[qs,qb,if_true,if_false,reduceIte]) |refine AWP_sq rfl (fun K hK=>?_) |refine ct rfl ?_ |((try simp(disch:=omega) only[go_sem,Nat.reduceBEq,Nat.reduceAdd]);(first |apply hK |(clear hK;apply hK) |(clear hK;clear hK;apply hK));clear hK;(try clear K);(try dsimp only[behind,qs,qb])))
      refine AWP_ret ?_;simp(disch:=omega) only[go_sem,Nat.reduceBEq,Nat.reduceAdd]
      rw[hk0,Nat.pow_zero,Nat.mul_one] at he
      rwa[←he]
    · obtain⟨b1,b2,b3⟩:=npow_bits hb hk0
      have hk2:k / 2≤2^20:=by omega
      have hlt:k / 2 < k:=by omega
      by_cases hm:k % 2=1
      · by_cases hk1:k=1
        · subst hk1
          repeat (first |(refine wo rfl (fun k hk=>?_);simp(disch:=omega) only[go_sem,Nat.reduceBEq,Nat.reduceAdd,and_one,hm];apply hk;clear hk k) |refine wkt rfl ?_ |refine wk0 ?_ |refine rg rfl rfl (fun K hK=>?_) |((first |refine AWP_exit ?_ |refine AWP_skip ?_);simp(disch:=decide) only[qs,qb,if_true,if_false,reduceIte]) |refine AWP_sq rfl (fun K hK=>?_) |refine ct rfl ?_ |((try simp(disch:=omega) only[go_sem,Nat.reduceBEq,Nat.reduceAdd]);(first |apply hK |(clear hK;apply hK) |(clear hK;clear hK;apply hK));clear hK;(try clear K);(try dsimp only[behind,qs,qb])))
          refine cN rfl rfl rfl rfl (by exact Mul_spec ho ha (by omega) (by omega)) ?_;rintro v3 h3 s3 q3
          repeat (first |(refine wo rfl (fun k hk=>?_);simp(disch:=omega) only[go_sem,Nat.reduceBEq,Nat.reduceAdd,and_one,shr_one];apply hk;clear hk k) |refine wkt rfl ?_ |refine wk0 ?_ |refine rg rfl rfl (fun K hK=>?_) |((first |refine AWP_exit ?_ |refine AWP_skip ?_);simp(disch:=decide) only[qs,qb,if_true,if_false,reduceIte]) |refine AWP_sq rfl (fun K hK=>?_) |refine ct rfl ?_ |((try simp(disch:=omega) only[go_sem,Nat.reduceBEq,Nat.reduceAdd]);(first |apply hK |(clear hK;apply hK) |(clear hK;clear hK;apply hK));clear hK;(try clear K);(try dsimp only[behind,qs,qb])))
          refine⟨(va,v3,a,o*a,0),?_,⟨ha.to,q3,by omega,?_,?_⟩,(show 0 < 1 by decide)⟩
          · simp(disch:=omega) only[go_sem,Nat.reduceBEq,Nat.reduceAdd]
            rfl
          · show bl (o*a)+bl a*0≤1+bl m*n
            rw[Nat.mul_zero]
            have:=bl_mul o a
            omega
          · show o*a*a^0=m^n
            rw[Nat.pow_zero,Nat.mul_one];rw[Nat.pow_one] at he;exact he
        · have h1k:1 < k:=by omega
          repeat (first |(refine wo rfl (fun k hk=>?_);simp(disch:=omega) only[go_sem,Nat.reduceBEq,Nat.reduceAdd,and_one,hm];apply hk;clear hk k) |refine wkt rfl ?_ |refine wk0 ?_ |refine rg rfl rfl (fun K hK=>?_) |((first |refine AWP_exit ?_ |refine AWP_skip ?_);simp(disch:=decide) only[qs,qb,if_true,if_false,reduceIte]) |refine AWP_sq rfl (fun K hK=>?_) |refine ct rfl ?_ |((try simp(disch:=omega) only[go_sem,Nat.reduceBEq,Nat.reduceAdd]);(first |apply hK |(clear hK;apply hK) |(clear hK;clear hK;apply hK));clear hK;(try clear K);(try dsimp only[behind,qs,qb])))
          refine cN rfl rfl rfl rfl (by exact Mul_spec ho ha (by omega) (by omega)) ?_;rintro v3 h3 s3 q3
          repeat (first |(refine wo rfl (fun k hk=>?_);simp(disch:=omega) only[go_sem,Nat.reduceBEq,Nat.reduceAdd];apply hk;clear hk k) |refine wkt rfl ?_ |refine wk0 ?_ |refine rg rfl rfl (fun K hK=>?_) |((first |refine AWP_exit ?_ |refine AWP_skip ?_);simp(disch:=decide) only[qs,qb,if_true,if_false,reduceIte]) |refine AWP_sq rfl (fun K hK=>?_) |refine ct rfl ?_ |((try simp(disch:=omega) only[go_sem,Nat.reduceBEq,Nat.reduceAdd]);(first |apply hK |(clear hK;apply hK) |(clear hK;clear hK;apply hK));clear hK;(try clear K);(try dsimp only[behind,qs,qb])))
          refine cN rfl rfl rfl rfl (by exact Mul_spec (ha.to (h':=h3)) (ha.to (h':=h3)) (by omega) (by omega)) ?_;rintro v4 h4 s4 q4
          repeat (first |(refine wo rfl (fun k hk=>?_);simp(disch:=omega) only[go_sem,Nat.reduceBEq,Nat.reduceAdd,shr_one];apply hk;clear hk k) |refine wkt rfl ?_ |refine wk0 ?_ |refine rg rfl rfl (fun K hK=>?_) |((first |refine AWP_exit ?_ |refine AWP_skip ?_);simp(disch:=decide) only[qs,qb,if_true,if_false,reduceIte]) |refine AWP_sq rfl (fun K hK=>?_) |refine ct rfl ?_ |((try simp(disch:=omega) only[go_sem,Nat.reduceBEq,Nat.reduceAdd]);(first |apply hK |(clear hK;apply hK) |(clear hK;clear hK;apply hK));clear hK;(try clear K);(try dsimp only[behind,qs,qb])))
          refine⟨(v4,v3,a*a,o*a,k / 2),?_,⟨q4,q3.to,hk2,?_,npow_odd hm he⟩,hlt⟩
          · simp(disch:=omega) only[go_sem,Nat.reduceBEq,Nat.reduceAdd]
          · show bl (o*a)+bl (a*a)*(k / 2)≤1+bl m*n
            rw[hm,Nat.mul_one] at b2;omega
      · have hm:k % 2=0:=by omega
        have h1k:1 < k:=by omega
        repeat (first |(refine wo rfl (fun k hk=>?_);simp(disch:=omega) only[go_sem,Nat.reduceBEq,Nat.reduceAdd,and_one,hm];apply hk;clear hk k) |refine wkt rfl ?_ |refine wk0 ?_ |refine rg rfl rfl (fun K hK=>?_) |((first |refine AWP_exit ?_ |refine AWP_skip ?_);simp(disch:=decide) only[qs,qb,if_true,if_false,reduceIte]) |refine AWP_sq rfl (fun K hK=>?_) |refine ct rfl ?_ |((try simp(disch:=omega) only[go_sem,Nat.reduceBEq,Nat.reduceAdd]);(first |apply hK |(clear hK;apply hK) |(clear hK;clear hK;apply hK));clear hK;(try clear K);(try dsimp only[behind,qs,qb])))
        refine cN rfl rfl rfl rfl (by exact Mul_spec ha ha (by omega) (by omega)) ?_;rintro v4 h4 s4 q4
        repeat (first |(refine wo rfl (fun k hk=>?_);simp(disch:=omega) only[go_sem,Nat.reduceBEq,Nat.reduceAdd,shr_one];apply hk;clear hk k) |refine wkt rfl ?_ |refine wk0 ?_ |refine rg rfl rfl (fun K hK=>?_) |((first |refine AWP_exit ?_ |refine AWP_skip ?_);simp(disch:=decide) only[qs,qb,if_true,if_false,reduceIte]) |refine AWP_sq rfl (fun K hK=>?_) |refine ct rfl ?_ |((try simp(disch:=omega) only[go_sem,Nat.reduceBEq,Nat.reduceAdd]);(first |apply hK |(clear hK;apply hK) |(clear hK;clear hK;apply hK));clear hK;(try clear K);(try dsimp only[behind,qs,qb])))
        refine⟨(v4,vo,a*a,o,k / 2),?_,⟨q4,ho.to,hk2,b3,npow_even hm he⟩,hlt⟩
        simp(disch:=omega) only[go_sem,Nat.reduceBEq,Nat.reduceAdd]
end Go.Q
namespace Go.Q
theorem rpow_mono {a b:Rat} (n:Nat) (h0:0≤a) (h:a≤b):a^n≤b^n:=by
  induction n with
  |zero=>rw[Rat.pow_zero,Rat.pow_zero];exact Rat.le_refl
  | succ n ih=>
    rw[Rat.pow_succ,Rat.pow_succ]
    have h1:=Rat.mul_le_mul_of_nonneg_left h (Rat.pow_nonneg (n:=n) h0)
    have h2:=Rat.mul_le_mul_of_nonneg_right ih (show 0≤b by grind)
    exact Rat.le_trans h1 h2
theorem bl_pow (m n:Nat):bl (m^n)≤n*bl m+1:=by
  induction n with
  |zero=>rw[Nat.pow_zero,bl_one];omega
  | succ n ih=>
    rw[Nat.pow_succ]
    have:=bl_mul (m^n) m
    have e:(n+1)*bl m=n*bl m+bl m:=Nat.succ_mul _ _
    omega
def irtTo (n a:Nat):Nat→Nat
  |0=>0
  |k+1=>if (k+1)^n≤a then k+1 else irtTo n a k
def irt (n a:Nat):Nat:=irtTo n a a
theorem irtTo_le (n a k:Nat) (hn:n≠0):irtTo n a k^n≤a:=by
  induction k with
  |zero=>show 0^n≤a;rw[Nat.zero_pow (Nat.pos_of_ne_zero hn)];exact Nat.zero_le _
  | succ k ih=>
    show(if _ then _ else _)^n≤a
    split
    · assumption
    · exact ih
theorem irtTo_lt (n a k:Nat) {j:Nat} (h:j^n≤a) (hj:j≤k):j≤irtTo n a k:=by
  induction k with
  |zero=>omega
  | succ k ih=>
    show j≤if _ then _ else _
    split
    · exact hj
    · rename_i h1
      have:j≠k+1:=fun e=>h1 (e▸h)
      exact ih (by omega)
theorem irt_le {n a:Nat} (hn:n≠0):irt n a^n≤a:=irtTo_le n a a hn
theorem irt_max {n a j:Nat} (hn:n≠0) (h:j^n≤a):j≤irt n a:=by
  refine irtTo_lt n a a h (Nat.le_trans ?_ h)
  cases j with
  |zero=>exact Nat.zero_le _
  |succ j=>exact Nat.le_self_pow hn _
theorem irt_eq {n a x:Nat} (hn:n≠0) (h1:x^n≤a) (h2:irt n a≤x):x=irt n a:=Nat.le_antisymm (irt_max hn h1) h2
theorem irt_zero {n:Nat} (hn:n≠0):irt n 0=0:=by
  have:=irt_le (n:=n) (a:=0) hn
  have h1:irt n 0≤irt n 0^n:=Nat.le_self_pow hn _
  omega
theorem irt_lt_pow {n a k:Nat} (hn:n≠0) (h:a < 2^(n*k)):irt n a < 2^k:=by
  refine Decidable.byContradiction fun c=>?_
  have h1:2^k≤irt n a:=by omega
  have h2:=Nat.pow_le_pow_left h1 n
  rw[←Nat.pow_mul,Nat.mul_comm k n] at h2
  have:=irt_le (n:=n) (a:=a) hn
  omega
theorem bern (r x m:Nat):(m+1)*(r*x^m)≤r^(m+1)+m*x^(m+1):=by
  induction m with
  |zero=>simp
  | succ m ih=>
    have h1:=Nat.mul_le_mul_right r ih
    have h2:2*(r*x)≤r*r+x*x:=by
      rcases Nat.le_total r x with h |h
      · obtain⟨d,rfl⟩:=Nat.exists_eq_add_of_le h
        have:0≤d*d:=Nat.zero_le _
        grind
      · obtain⟨d,rfl⟩:=Nat.exists_eq_add_of_le h
        have:0≤d*d:=Nat.zero_le _
        grind
    have h3:=Nat.mul_le_mul_left ((m+1)*x^m) h2
    have e1:r^(m+1+1)=r^(m+1)*r:=Nat.pow_succ ..
    have e2:x^(m+1)=x^m*x:=Nat.pow_succ ..
    have e3:x^(m+1+1)=x^m*x*x:=by rw[Nat.pow_succ,e2]
    rw[e1,e3,e2]
    rw[e2] at h1
    generalize x^m=y at*
    generalize r^(m+1)=z at*
    grind
def nwt (n a x:Nat):Nat:=((n - 1)*x+a / x^(n - 1)) / n
theorem nwt_ge {n a x:Nat} (hn:n≠0) (hx:0 < x):irt n a≤nwt n a x:=by
  have hr:=irt_le (n:=n) (a:=a) hn
  generalize irt n a=r at*
  obtain⟨m,rfl⟩:∃m,n=m+1:=⟨n - 1,by omega⟩
  unfold nwt
  rw[Nat.add_sub_cancel,Nat.le_div_iff_mul_le (by omega)]
  have hb:=bern r x m
  have hp:0 < x^m:=Nat.pow_pos hx
  by_cases hc:r*(m+1)≤m*x
  · exact Nat.le_trans hc (Nat.le_add_right _ _)
  · obtain⟨t,ht⟩:∃t,r*(m+1)=m*x+t:=⟨r*(m+1) - m*x,by omega⟩
    have h1:t≤a / x^m:=by
      rw[Nat.le_div_iff_mul_le hp]
      have e1:(m+1)*(r*x^m)=m*x*x^m+t*x^m:=by
        rw[←Nat.add_mul,←ht,←Nat.mul_assoc,Nat.mul_comm (m+1) r]
      have e2:m*x^(m+1)=m*x*x^m:=by rw[Nat.pow_succ,Nat.mul_comm (x^m) x,Nat.mul_assoc]
      omega
    omega
theorem nwt_stop {n a x:Nat} (hn:n≠0) (hx:0 < x) (h:x≤nwt n a x):x^n≤a:=by
  obtain⟨m,rfl⟩:∃m,n=m+1:=⟨n - 1,by omega⟩
  unfold nwt at h
  rw[Nat.add_sub_cancel,Nat.le_div_iff_mul_le (by omega)] at h
  have hp:0 < x^m:=Nat.pow_pos hx
  have e1:x*(m+1)=m*x+x:=by rw[Nat.mul_add,Nat.mul_one,Nat.mul_comm]
  have h1:x≤a / x^m:=by omega
  rw[Nat.le_div_iff_mul_le hp] at h1
  rw[Nat.pow_succ,Nat.mul_comm]
  exact h1
theorem irt_pos {n a:Nat} (hn:n≠0) (ha:0 < a):0 < irt n a:=irt_max hn (by rw[Nat.one_pow];exact ha)
theorem nwt_pos {n a x:Nat} (hn:n≠0) (ha:0 < a) (hx:0 < x):0 < nwt n a x:=Nat.lt_of_lt_of_le (irt_pos hn ha) (nwt_ge hn hx)
end Go.Q
namespace Go.Q
open Go.Proofs
set_option maxRecDepth 100000
set_option maxHeartbeats 4000000
def rt0 (n a:Nat):Nat:=2^((bl a+n - 1) / n+1)
theorem rt_start {n a k:Nat} (hn:n≠0) (hk:(bl a+n - 1) / n≤k):irt n a≤2^k:=by
  have h1:bl a≤n*((bl a+n - 1) / n):=by
    have:=Nat.div_add_mod (bl a+n - 1) n
    have:=Nat.mod_lt (bl a+n - 1) (Nat.pos_of_ne_zero hn)
    omega
  have h2:a < 2^bl a:=bl_le.1 (Nat.le_refl _)
  have h3:(2:Nat)^bl a≤2^(n*k):=Nat.pow_le_pow_right (by decide) (Nat.le_trans h1 (Nat.mul_le_mul_left _ hk))
  exact Nat.le_of_lt (irt_lt_pow hn (Nat.lt_of_lt_of_le h2 h3))
theorem cmp3_ge {m n:Nat}:0≤cmp3 m n↔n≤m:=by unfold cmp3;(repeat' split)<;>omega
theorem cmp3_eq0 {m n:Nat}:cmp3 m n=0↔m=n:=by unfold cmp3;(repeat' split)<;>omega
theorem div_lt' {b n:Nat} (hn:2≤n) (hb:b≤2^20):(b+n - 1) / n≤2^20:=by
  rw[Nat.div_le_iff_le_mul_add_pred (by omega)]
  have:=Nat.mul_le_mul hn (Nat.le_refl (2^20))
  omega
theorem N32.len0 {h:PH} {a:Option Addr} {l c n:Nat} (r:N32 h (.slice a l c) n):l=0↔n=0:=by
  obtain⟨_,_,_,e,_,h2,_⟩:=r.out
  cases e
  have:=W_len0 B32 (n:=n)
  rw[h2] at this
  exact this
@[go_sem] theorem wrap_div {x y:Nat} (h:x < 4611686018427387904):IntKind.i64.wrap ((x / y:Nat):Int)=((x / y:Nat):Int):=by
  have:=Nat.div_le_self x y
  generalize x / y=z at*
  exact wi64 (by omega) (by omega)
@[go_sem] theorem wrap_div1 {x y c:Nat} (h:x+c < 4611686018427387904):IntKind.i64.wrap ((x / y+c:Nat):Int)=((x / y+c:Nat):Int):=by
  have:=Nat.div_le_self x y
  generalize x / y=z at*
  exact wi64 (by omega) (by omega)
theorem NRoot_spec {h0 h:PH} [Le h0 h] {v:Value} {a n:Nat} (hv:N32 h0 v a) (hn:2≤n) (hn8:n≤8) (ba:bl a≤2^20):Spec mach 142 #[v,.int .i64 n] h (fun v h'=>∃r,v=.tuple #[r,.bool (decide (irt n a^n=a))]∧N32 h' r (irt n a)) NP:=by
  obtain⟨va,vl,vc,rfl,hv⟩:=hv.sl
  have hv0:=hv.len0
  have hn0:n≠0:=by omega
  by_cases ha0:a=0
  · have hl:vl=0:=hv0.2 ha0
    subst ha0 hl
    refine Spec.enter (args:=[_,_]) (n:=59) Tryz.func142 rfl (by kernel_rfl) rfl (by simp) [.tmp 4,.tmp 5] rfl (fun C _=>?_)
    repeat (first |(refine wo rfl (fun k hk=>?_);simp(disch:=omega) only[go_sem,Nat.reduceBEq,Nat.reduceAdd];apply hk;clear hk k) |refine wkt rfl ?_ |refine wk0 ?_ |refine rg rfl rfl (fun K hK=>?_) |((first |refine AWP_exit ?_ |refine AWP_skip ?_);simp(disch:=decide) only[qs,qb,if_true,if_false,reduceIte]) |refine AWP_sq rfl (fun K hK=>?_) |refine ct rfl ?_ |((try simp(disch:=omega) only[go_sem,Nat.reduceBEq,Nat.reduceAdd]);(first |apply hK |(clear hK;apply hK) |(clear hK;clear hK;apply hK));clear hK;(try clear K);(try dsimp only[behind,qs,qb])))
    refine AWP_ret ?_;simp(disch:=omega) only[go_sem,Nat.reduceBEq,Nat.reduceAdd]
    rw[irt_zero hn0,Nat.zero_pow (by omega)]
    exact⟨_,rfl,N32.zero _⟩
  · have hl:¬vl=0:=fun k=>ha0 (hv0.1 k)
    refine Spec.enter (args:=[_,_]) (n:=59) Tryz.func142 rfl (by kernel_rfl) rfl (by simp) [.tmp 4,.tmp 5] rfl (fun C _=>?_)
    repeat (first |(refine rg rfl rfl (fun K hK=>?_);(repeat (first |(refine wo rfl (fun k hk=>?_);simp(disch:=omega) only[go_sem,Nat.reduceBEq,Nat.reduceAdd];apply hk;clear hk k) |refine wkt rfl ?_));(try refine wk0 ?_);apply hK;clear hK K;(try dsimp only[behind,qs,qb])) |((first |refine AWP_exit ?_ |refine AWP_skip ?_);simp(disch:=decide) only[qs,qb,if_true,if_false,reduceIte]) |refine AWP_sq rfl (fun K hK=>?_) |refine ct rfl ?_ |((first |refine hK _ _ ?_ |(clear hK;refine hK _ _ ?_) |(clear hK;clear hK;refine hK _ _ ?_));clear hK;(try clear K)))
    have bx:∀x,x≤rt0 n a→bl x≤2^20+2:=fun x hx=>by
      have h1:=bl_mono hx
      have h2:=bl_pow2 ((bl a+n - 1) / n+1)
      have h3:=div_lt' hn ba
      unfold rt0 at h1
      omega
    have hs:(bl a+n - 1) / n+1≤2^20+1:=by have:=div_lt' hn ba;omega
    refine rg rfl rfl (fun K hK=>?_);(repeat (first |(refine wo rfl (fun k hk=>?_);simp(disch:=omega) only[go_sem,Nat.reduceBEq,Nat.reduceAdd];apply hk;clear hk k) |refine wkt rfl ?_));(try refine wk0 ?_)
    refine cN rfl rfl rfl rfl (by exact Small_spec (n:=1) (by decide)) ?_;rintro o1 h1 _ q1;obtain⟨o1,o1_l,o1_c,rfl,q1⟩:=q1.sl;(repeat (first |(refine wo rfl (fun k hk=>?_);simp(disch:=omega) only[go_sem,Nat.reduceBEq,Nat.reduceAdd];apply hk;clear hk k) |refine wkt rfl ?_));(try refine wk0 ?_)
    refine cN rfl rfl rfl rfl (by exact Bits_spec hv) ?_;rintro o2 h2 s2 rfl;(repeat (first |(refine wo rfl (fun k hk=>?_);simp(disch:=omega) only[go_sem,Nat.reduceBEq,Nat.reduceAdd];apply hk;clear hk k) |refine wkt rfl ?_));(try refine wk0 ?_)
    refine cN rfl rfl rfl rfl (by exact Shl_spec (n:=(bl a+n - 1) / n+1) (q1.to (h':=h2)) (by rw[bl_one];omega)) ?_;rintro o3 h3 _ q3;obtain⟨o3,o3_l,o3_c,rfl,q3⟩:=q3.sl
    repeat (first |(refine wo rfl (fun k hk=>?_);simp(disch:=omega) only[go_sem,Nat.reduceBEq,Nat.reduceAdd];apply hk;clear hk k) |refine wkt rfl ?_ |refine wk0 ?_ |((first |refine rg rfl rfl (fun K hK=>?_));(repeat (first |(refine wo rfl (fun k hk=>?_);simp(disch:=omega) only[go_sem,Nat.reduceBEq,Nat.reduceAdd];apply hk;clear hk k) |refine wkt rfl ?_ |refine wk0 ?_));(first |apply hK |(clear hK;apply hK) |(clear hK;clear hK;apply hK));clear hK;(try clear K);(try dsimp only[behind,qs,qb])) |((first |refine AWP_exit ?_ |refine AWP_skip ?_);simp(disch:=decide) only[qs,qb,if_true,if_false,reduceIte]) |refine AWP_sq rfl (fun K hK=>?_) |refine ct rfl ?_ |((try simp(disch:=omega) only[go_sem,Nat.reduceBEq,Nat.reduceAdd]);(first |apply hK |(clear hK;apply hK) |(clear hK;clear hK;apply hK));clear hK;(try clear K);(try dsimp only[behind,qs,qb])))
    rw[Nat.one_mul] at q3
    refine AWP_loop (fun x:Value×Nat=>⟨[(0,.v (.slice va vl vc)),(1,.v (.int .i64 n)),(6,.v x.1)],[]⟩)
      (fun x h'=>Le h0 h'∧N32 h' x.1 x.2∧0 < x.2∧irt n a≤x.2∧x.2≤rt0 n a) (fun x=>x.2) (.slice o3 o3_l o3_c,rt0 n a) ?_ ⟨inferInstance,q3,Nat.pow_pos (by decide),rt_start hn0 (Nat.le_succ _),Nat.le_refl _⟩ ?_
    · simp(disch:=omega) only[go_sem,Nat.reduceBEq,Nat.reduceAdd]
    · rintro⟨xv,x⟩ h4 ⟨le4,hx,hx0,hxi,hxr⟩
      dsimp only at hx hx0 hxi hxr ⊢
      have bxx:=bx x hxr
      obtain⟨xa,xl,xc,rfl,hx⟩:=hx.sl
      have m1:bl x*(n - 1)≤(2^20+2)*8:=Nat.mul_le_mul bxx (by omega)
      have m2:bl x*n≤(2^20+2)*8:=Nat.mul_le_mul bxx hn8
      have p1:=bl_pow x (n - 1)
      have p2:=bl_pow x n
      rw[Nat.mul_comm] at p1 p2
      have hp:0 < x^(n - 1):=Nat.pow_pos hx0
      have hy1:=nwt_ge (n:=n) (a:=a) hn0 hx0
      have hy2:=nwt_stop (n:=n) (a:=a) hn0 hx0
      have hy3:=nwt_pos (n:=n) (a:=a) hn0 (by omega) hx0
      have b3:=bl_mono (Nat.div_le_self a (x^(n - 1)))
      have b4:=bl_mul x (n - 1)
      have b5:bl (n - 1)≤8:=Nat.le_trans (bl_mono (show n - 1≤8 by omega)) (by decide)
      have b6:=bl_add (x*(n - 1)) (a / x^(n - 1))
      repeat (first |(refine wo rfl (fun k hk=>?_);simp(disch:=omega) only[go_sem,Nat.reduceBEq,Nat.reduceAdd];apply hk;clear hk k) |refine wkt rfl ?_ |refine wk0 ?_ |refine rg rfl rfl (fun K hK=>?_) |((first |refine AWP_exit ?_ |refine AWP_skip ?_);simp(disch:=decide) only[qs,qb,if_true,if_false,reduceIte]) |refine AWP_sq rfl (fun K hK=>?_) |refine ct rfl ?_ |((try simp(disch:=omega) only[go_sem,Nat.reduceBEq,Nat.reduceAdd]);(first |apply hK |(clear hK;apply hK) |(clear hK;clear hK;apply hK));clear hK;(try clear K);(try dsimp only[behind,qs,qb])))
      refine cN rfl rfl rfl rfl (by exact NPow_spec (n:=n - 1) hx (by omega) (by omega)) ?_;rintro u1 g1 _ t1;obtain⟨u1,u1_l,u1_c,rfl,t1⟩:=t1.sl;(repeat (first |(refine wo rfl (fun k hk=>?_);simp(disch:=omega) only[go_sem,Nat.reduceBEq,Nat.reduceAdd];apply hk;clear hk k) |refine wkt rfl ?_));(try refine wk0 ?_)
      refine cN rfl rfl rfl rfl (by exact Div_spec (hv.to (h':=g1)) t1 (by omega) (by omega) (by omega)) ?_;rintro w2 g2 s2 ⟨q,r,rfl,hq,hr⟩;(repeat (first |(refine wo rfl (fun k hk=>?_);simp(disch:=omega) only[go_sem,Nat.reduceBEq,Nat.reduceAdd];apply hk;clear hk k) |refine wkt rfl ?_));(try refine wk0 ?_)
      (repeat (first |(refine wo rfl (fun k hk=>?_);simp(disch:=omega) only[go_sem,Nat.reduceBEq,Nat.reduceAdd];apply hk;clear hk k) |refine wkt rfl ?_));(try refine wk0 ?_)
      repeat (first |(refine wo rfl (fun k hk=>?_);simp(disch:=omega) only[go_sem,Nat.reduceBEq,Nat.reduceAdd];apply hk;clear hk k) |refine wkt rfl ?_ |refine wk0 ?_ |((first |refine rg rfl rfl (fun K hK=>?_));(repeat (first |(refine wo rfl (fun k hk=>?_);simp(disch:=omega) only[go_sem,Nat.reduceBEq,Nat.reduceAdd];apply hk;clear hk k) |refine wkt rfl ?_ |refine wk0 ?_));(first |apply hK |(clear hK;apply hK) |(clear hK;clear hK;apply hK));clear hK;(try clear K);(try dsimp only[behind,qs,qb])) |((first |refine AWP_exit ?_ |refine AWP_skip ?_);simp(disch:=decide) only[qs,qb,if_true,if_false,reduceIte]) |refine AWP_sq rfl (fun K hK=>?_) |refine ct rfl ?_ |((try simp(disch:=omega) only[go_sem,Nat.reduceBEq,Nat.reduceAdd]);(first |apply hK |(clear hK;apply hK) |(clear hK;clear hK;apply hK));clear hK;(try clear K);(try dsimp only[behind,qs,qb])))
      have en:x*(n - 1)+a / x^(n - 1)=(n - 1)*x+a / x^(n - 1):=by rw[Nat.mul_comm]
      refine rg rfl rfl (fun K hK=>?_);(repeat (first |(refine wo rfl (fun k hk=>?_);simp(disch:=omega) only[go_sem,Nat.reduceBEq,Nat.reduceAdd];apply hk;clear hk k) |refine wkt rfl ?_));(try refine wk0 ?_)
      refine cN rfl rfl rfl rfl (by exact Small_spec (n:=n - 1) (by omega)) ?_;rintro u3 g3 _ t3;obtain⟨u3,u3_l,u3_c,rfl,t3⟩:=t3.sl;(repeat (first |(refine wo rfl (fun k hk=>?_);simp(disch:=omega) only[go_sem,Nat.reduceBEq,Nat.reduceAdd];apply hk;clear hk k) |refine wkt rfl ?_));(try refine wk0 ?_)
      refine cN rfl rfl rfl rfl (by exact Mul_spec (hx.to (h':=g3)) t3 (by omega) (by omega)) ?_;rintro u4 g4 _ t4;obtain⟨u4,u4_l,u4_c,rfl,t4⟩:=t4.sl;(repeat (first |(refine wo rfl (fun k hk=>?_);simp(disch:=omega) only[go_sem,Nat.reduceBEq,Nat.reduceAdd];apply hk;clear hk k) |refine wkt rfl ?_));(try refine wk0 ?_)
      refine cN rfl rfl rfl rfl (by exact Add_spec t4 (hq.to (h':=g4)) (by omega) (by omega)) ?_;rintro u5 g5 _ t5;obtain⟨u5,u5_l,u5_c,rfl,t5⟩:=t5.sl;(repeat (first |(refine wo rfl (fun k hk=>?_);simp(disch:=omega) only[go_sem,Nat.reduceBEq,Nat.reduceAdd];apply hk;clear hk k) |refine wkt rfl ?_));(try refine wk0 ?_)
      refine cN rfl rfl rfl rfl (by exact DivSmall_spec (d:=n) t5 (by omega) (by omega) (by omega)) ?_;rintro w6 g6 s6 ⟨y,rfl,hy⟩;(repeat (first |(refine wo rfl (fun k hk=>?_);simp(disch:=omega) only[go_sem,Nat.reduceBEq,Nat.reduceAdd];apply hk;clear hk k) |refine wkt rfl ?_));(try refine wk0 ?_)
      (repeat (first |(refine wo rfl (fun k hk=>?_);simp(disch:=omega) only[go_sem,Nat.reduceBEq,Nat.reduceAdd];apply hk;clear hk k) |refine wkt rfl ?_));(try refine wk0 ?_)
      (try (simp(disch:=omega) only[go_sem,Nat.reduceBEq,Nat.reduceAdd]));apply hK;clear hK;(try clear K);(try dsimp only[behind,qs])
      rw[en] at hy
      have hy:N32 g6 y (nwt n a x):=hy
      clear en
      generalize nwt n a x=z at*
      obtain⟨ya,yl,yc,rfl,hy⟩:=hy.sl
      repeat (first |(refine rg rfl rfl (fun K hK=>?_);(repeat (first |(refine wo rfl (fun k hk=>?_);simp(disch:=omega) only[go_sem,Nat.reduceBEq,Nat.reduceAdd];apply hk;clear hk k) |refine wkt rfl ?_));(try refine wk0 ?_);apply hK;clear hK K;(try dsimp only[behind,qs,qb])) |((first |refine AWP_exit ?_ |refine AWP_skip ?_);simp(disch:=decide) only[qs,qb,if_true,if_false,reduceIte]) |refine AWP_sq rfl (fun K hK=>?_) |refine ct rfl ?_ |((first |refine hK _ _ ?_ |(clear hK;refine hK _ _ ?_) |(clear hK;clear hK;refine hK _ _ ?_));clear hK;(try clear K)))
      by_cases hc:x≤z
      · have e1:0≤cmp3 z x:=cmp3_ge.2 hc
        have exi:x=irt n a:=irt_eq hn0 (hy2 hc) hxi
        refine rg rfl rfl (fun K hK=>?_);(repeat (first |(refine wo rfl (fun k hk=>?_);simp(disch:=omega) only[go_sem,Nat.reduceBEq,Nat.reduceAdd];apply hk;clear hk k) |refine wkt rfl ?_));(try refine wk0 ?_)
        refine cN rfl rfl rfl rfl (by exact Cmp_spec hy (hx.to (h':=g6))) ?_;rintro w7 g7 s7 rfl
        repeat (first |(refine wo rfl (fun k hk=>?_);simp(disch:=omega) only[go_sem,Nat.reduceBEq,Nat.reduceAdd];apply hk;clear hk k) |refine wkt rfl ?_ |refine wk0 ?_ |((first |refine rg rfl rfl (fun K hK=>?_));(repeat (first |(refine wo rfl (fun k hk=>?_);simp(disch:=omega) only[go_sem,Nat.reduceBEq,Nat.reduceAdd];apply hk;clear hk k) |refine wkt rfl ?_ |refine wk0 ?_));(first |apply hK |(clear hK;apply hK) |(clear hK;clear hK;apply hK));clear hK;(try clear K);(try dsimp only[behind,qs,qb])) |((first |refine AWP_exit ?_ |refine AWP_skip ?_);simp(disch:=decide) only[qs,qb,if_true,if_false,reduceIte]) |refine AWP_sq rfl (fun K hK=>?_) |refine ct rfl ?_ |((try simp(disch:=omega) only[go_sem,Nat.reduceBEq,Nat.reduceAdd]);(first |apply hK |(clear hK;apply hK) |(clear hK;clear hK;apply hK));clear hK;(try clear K);(try dsimp only[behind,qs,qb])))
        by_cases hq0:x^n=a
        · have e2:cmp3 (x^n) a=0:=cmp3_eq0.2 hq0
          refine rg rfl rfl (fun K hK=>?_);(repeat (first |(refine wo rfl (fun k hk=>?_);simp(disch:=omega) only[go_sem,Nat.reduceBEq,Nat.reduceAdd];apply hk;clear hk k) |refine wkt rfl ?_));(try refine wk0 ?_)
          refine cN rfl rfl rfl rfl (by exact NPow_spec (n:=n) (hx.to (h':=g7)) (by omega) (by omega)) ?_;rintro u8 g8 _ t8;obtain⟨u8,u8_l,u8_c,rfl,t8⟩:=t8.sl;(repeat (first |(refine wo rfl (fun k hk=>?_);simp(disch:=omega) only[go_sem,Nat.reduceBEq,Nat.reduceAdd];apply hk;clear hk k) |refine wkt rfl ?_));(try refine wk0 ?_)
          refine cN rfl rfl rfl rfl (by exact Cmp_spec t8 (hv.to (h':=g8))) ?_;rintro w9 g9 s9 rfl
          repeat (first |(refine wo rfl (fun k hk=>?_);simp(disch:=omega) only[go_sem,Nat.reduceBEq,Nat.reduceAdd];apply hk;clear hk k) |refine wkt rfl ?_ |refine wk0 ?_ |refine rg rfl rfl (fun K hK=>?_) |((first |refine AWP_exit ?_ |refine AWP_skip ?_);simp(disch:=decide) only[qs,qb,if_true,if_false,reduceIte]) |refine AWP_sq rfl (fun K hK=>?_) |refine ct rfl ?_ |((try simp(disch:=omega) only[go_sem,Nat.reduceBEq,Nat.reduceAdd]);(first |apply hK |(clear hK;apply hK) |(clear hK;clear hK;apply hK));clear hK;(try clear K);(try dsimp only[behind,qs,qb])))
          refine AWP_ret ?_;simp(disch:=omega) only[go_sem,Nat.reduceBEq,Nat.reduceAdd]
          rw[←exi,decide_eq_true hq0]
          exact⟨_,rfl,hx.to⟩
        · have e2:¬cmp3 (x^n) a=0:=fun k=>hq0 (cmp3_eq0.1 k)
          refine rg rfl rfl (fun K hK=>?_);(repeat (first |(refine wo rfl (fun k hk=>?_);simp(disch:=omega) only[go_sem,Nat.reduceBEq,Nat.reduceAdd];apply hk;clear hk k) |refine wkt rfl ?_));(try refine wk0 ?_)
          refine cN rfl rfl rfl rfl (by exact NPow_spec (n:=n) (hx.to (h':=g7)) (by omega) (by omega)) ?_;rintro u8 g8 _ t8;obtain⟨u8,u8_l,u8_c,rfl,t8⟩:=t8.sl;(repeat (first |(refine wo rfl (fun k hk=>?_);simp(disch:=omega) only[go_sem,Nat.reduceBEq,Nat.reduceAdd];apply hk;clear hk k) |refine wkt rfl ?_));(try refine wk0 ?_)
          refine cN rfl rfl rfl rfl (by exact Cmp_spec t8 (hv.to (h':=g8))) ?_;rintro w9 g9 s9 rfl
          repeat (first |(refine wo rfl (fun k hk=>?_);simp(disch:=omega) only[go_sem,Nat.reduceBEq,Nat.reduceAdd];apply hk;clear hk k) |refine wkt rfl ?_ |refine wk0 ?_ |refine rg rfl rfl (fun K hK=>?_) |((first |refine AWP_exit ?_ |refine AWP_skip ?_);simp(disch:=decide) only[qs,qb,if_true,if_false,reduceIte]) |refine AWP_sq rfl (fun K hK=>?_) |refine ct rfl ?_ |((try simp(disch:=omega) only[go_sem,Nat.reduceBEq,Nat.reduceAdd]);(first |apply hK |(clear hK;apply hK) |(clear hK;clear hK;apply hK));clear hK;(try clear K);(try dsimp only[behind,qs,qb])))
          refine AWP_ret ?_;simp(disch:=omega) only[go_sem,Nat.reduceBEq,Nat.reduceAdd]
          rw[←exi,decide_eq_false hq0]
          exact⟨_,rfl,hx.to⟩
      · have e1:¬0≤cmp3 z x:=fun k=>hc (cmp3_ge.1 k)
        refine rg rfl rfl (fun K hK=>?_);(repeat (first |(refine wo rfl (fun k hk=>?_);simp(disch:=omega) only[go_sem,Nat.reduceBEq,Nat.reduceAdd];apply hk;clear hk k) |refine wkt rfl ?_));(try refine wk0 ?_)
        refine cN rfl rfl rfl rfl (by exact Cmp_spec hy (hx.to (h':=g6))) ?_;rintro w7 g7 s7 rfl
        repeat (first |(refine wo rfl (fun k hk=>?_);simp(disch:=omega) only[go_sem,Nat.reduceBEq,Nat.reduceAdd];apply hk;clear hk k) |refine wkt rfl ?_ |refine wk0 ?_ |refine rg rfl rfl (fun K hK=>?_) |((first |refine AWP_exit ?_ |refine AWP_skip ?_);simp(disch:=decide) only[qs,qb,if_true,if_false,reduceIte]) |refine AWP_sq rfl (fun K hK=>?_) |refine ct rfl ?_ |((try simp(disch:=omega) only[go_sem,Nat.reduceBEq,Nat.reduceAdd]);(first |apply hK |(clear hK;apply hK) |(clear hK;clear hK;apply hK));clear hK;(try clear K);(try dsimp only[behind,qs,qb])))
        refine⟨(_,z),?_,⟨inferInstance,hy.to,hy3,hy1,by omega⟩,by omega⟩
        simp(disch:=omega) only[go_sem,Nat.reduceBEq,Nat.reduceAdd]
end Go.Q
namespace Go.Q
open Go.Proofs
set_option maxRecDepth 100000
end Go.Q
namespace Go.Q
open Go.Proofs
set_option maxRecDepth 100000
set_option maxHeartbeats 4000000
end Go.Q
namespace Go.Q
open Go.Proofs Go.Proofs.YtacebncjhpdacaaGreatDoor
set_option maxRecDepth 100000
open Go.ChangeShapes Go.WideShapes Go.ChangeAt Go.RowKit
def pub (W:World):PH:=fun b=>match W.heap[b]? with
  |some (.cells cs _ _)=>some cs
  |_=>none
theorem pub_has (W:World):Has W (pub W):=fun b cs hb=>by
  unfold pub at hb
  split at hb
  · rename_i hx;cases hb;exact⟨_,_,hx⟩
  · cases hb
theorem pub_at (W:World) (a:Addr):(pub W).at a=W.cell? a:=by
  unfold PH.at pub World.cell?
  cases hx:W.heap[a.block]? with
  |none=>simp
  |some o=>cases o<;>simp
def flds (P:Program) (t:TypeId):Option (List (Nat×Nat)):=match P.underlying t with
  |some (.struct fs)=>some (fs.toList.map fun f=>(f.type,f.offset))
  |_=>none
theorem flds_some {P:Program} {t:TypeId} {l:List (Nat×Nat)} (h:flds P t=some l):∃fs,P.underlying t=some (.struct fs)∧fs.toList.map (fun f=>(f.type,f.offset))=l:=by
  unfold flds at h
  split at h
  · rename_i fs hx;cases h;exact⟨fs,hx,rfl⟩
  · cases h
theorem fl24:flds Tryz.prog 24=some [(4,0),(22,1),(22,2)]:=by kernel_rfl
theorem un22:Tryz.prog.underlying 22=some (.slice 56):=by kernel_rfl
theorem un76:Tryz.prog.underlying 56=some (.int .u32):=by kernel_rfl
theorem un4:Tryz.prog.underlying 4=some .bool:=by kernel_rfl
theorem un3:Tryz.prog.underlying 3=some (.int .i64):=by kernel_rfl
theorem ce4:Tryz.prog.cellsOf 4=1:=by kernel_rfl
theorem ce22:Tryz.prog.cellsOf 22=1:=by kernel_rfl
theorem ce76:Tryz.prog.cellsOf 56=1:=by kernel_rfl
theorem ce24:Tryz.prog.cellsOf 24=3:=by kernel_rfl
section
variable {H:Type} {enc:TypeId×Value→H} {W:World} {sp:Nat→Bool} {held:Bool}
theorem bulk_len (l:List (DataW H)):l.length≤Rows.uptoBulkAll l:=by
  induction l with
  |nil=>simp[Rows.uptoBulkAll]
  | cons x r ih=>
    have:1≤Rows.uptoBulk x:=by
      cases x with
      |lit l=>cases l<;>simp[Rows.uptoBulk]
      |_=>simp[Rows.uptoBulk]
    simp only[Rows.uptoBulkAll,List.length_cons]
    omega
theorem open_words {fuel:Nat} {cs:List Value} {x:DataW H×List MemPlace} (h:DataW.trod enc Tryz.prog W 0 sp held fuel 22 cs=some x) {B:Nat} (hB:B≤1048576) (hk:Rows.uptoBulk x.1≤B):
    ∃a xs c,cs=[.slice a xs.length c]∧Arr (pub W) a c xs∧xs.length≤2^30:=by
  rcases open_ints un22 un76 ce76 h with⟨rfl,rfl⟩ |⟨a,len,cap,zs,rfl,_,hl,hm,hz,rfl,hcell,hwf⟩
  · exact⟨none,[],0,rfl,Arr.nil _,by simp⟩
  · have hzl:len≤zs.length:=by rw[hz];split<;>omega
    have hb:len≤1048576:=by
      simp only[Rows.uptoBulk] at hk
      have e:(lits (H:=H) .u32 (zs.take len)).length=len:=by simp[lits];omega
      have:=bulk_len (H:=H) (lits .u32 (zs.take len))
      rw[e] at this
      omega
    refine⟨some a,(zs.take len).map Int.toNat,cap,?_,⟨?_,?_,?_,?_⟩,?_⟩
    · simp;omega
    · simp;omega
    · simp;omega
    · intro y hy
      obtain⟨z,hz,rfl⟩:=List.mem_map.1 hy
      have:=bounds_u32 (hwf z (List.mem_of_mem_take hz))
      omega
    · intro i y hy
      rw[List.getElem?_map,Option.map_eq_some_iff] at hy
      obtain⟨z,hz',rfl⟩:=hy
      rw[List.getElem?_take] at hz'
      split at hz'
      · refine⟨a,rfl,?_⟩
        have hi:i < zs.length:=(List.getElem?_eq_some_iff.1 hz').1
        rw[pub_at,hcell i hi]
        have e:zs.getD i 0=z:=by simp[hz']
        have:=bounds_u32 (hwf z (List.mem_of_getElem? hz'))
        rw[e]
        congr 2
        omega
      · cases hz'
    · simp;omega
theorem open_rat {fuel:Nat} {cs:List Value} {x:DataW H×List MemPlace} (h:DataW.trod enc Tryz.prog W 0 sp held fuel 24 cs=some x) {B:Nat} (hB:B≤1048576) (hk:Rows.uptoBulk x.1≤B):
    ∃neg n d,Rw (pub W) (.agg cs.toArray) neg n d∧cs.length=3:=by
  obtain⟨fs,hu,hf⟩:=flds_some fl24
  obtain⟨xs,n,rfl,rfl,hl,hsz,hg⟩:=DataW.trod_struct hu h
  rw[ce24] at hl
  have hfs:fs.size=3:=by
    have:=congrArg List.length hf
    simpa using this
  match cs,hl with
  |[c0,c1,c2],_=>
  have get:∀(i t o:Nat),(fs.toList.map fun f=>(f.type,f.offset))[i]?=some (t,o)→∃f:Field,fs[i]?=some f∧f.type=t∧f.offset=o:=by
    intro i t o hi
    rw[List.getElem?_map,Option.map_eq_some_iff] at hi
    obtain⟨f,h1,h2⟩:=hi
    cases h2
    exact⟨f,by simpa using h1,rfl,rfl⟩
  obtain⟨f0,k0,e0,o0⟩:=get 0 4 0 (by rw[hf];rfl)
  obtain⟨f1,k1,e1,o1⟩:=get 1 22 1 (by rw[hf];rfl)
  obtain⟨f2,k2,e2,o2⟩:=get 2 22 2 (by rw[hf];rfl)
  have g0:=hg 0 f0 k0
  have g1:=hg 1 f1 k1
  have g2:=hg 2 f2 k2
  rw[e0,o0,ce4] at g0
  rw[e1,o1,ce22] at g1
  rw[e2,o2,ce22] at g2
  rw[hfs] at hsz
  match xs,hsz with
  |[y0,y1,y2],_=>
  simp only[List.drop_zero,List.take_succ_cons,List.take_zero,List.drop_succ_cons,List.getElem?_cons_zero,List.getElem?_cons_succ] at g0 g1 g2
  simp only[Rows.uptoBulk,List.map_cons,List.map_nil,Rows.uptoBulkAll] at hk
  obtain⟨b,e,_⟩:=DataW.trod_bool un4 g0
  obtain⟨a1,xs1,c1',e1,A1,l1⟩:=open_words g1 hB (by omega)
  obtain⟨a2,xs2,c2',e2,A2,l2⟩:=open_words g2 hB (by omega)
  cases e
  cases e1
  cases e2
  exact⟨b,_,_,⟨a1,c1',xs1,a2,c2',xs2,rfl,A1,A2,rfl,rfl,l1,l2⟩,rfl⟩
theorem stays {P:Program} {W':World} {sp:Nat→Bool} (hl:laidOutB P=true) (hb:Below W.heap.size W W') (ts:List TypeId):∀(vs:List Value) (ds:List (DataW H)) (p:List MemPlace),(∀t∈ts,P.readableRec t=true∧t < P.types.size)→(∀x∈p,x.block < W.heap.size)→(∀x∈p,sp x.block=true)→
    DataW.TrodAll enc P W 0 (fun _=>true) true ts vs ds p→DataW.TrodAll enc P W' 0 sp true ts vs ds p:=by
  induction ts with
  | nil=>
    intro vs ds p _ _ _ h
    cases vs with
    | nil=>cases ds with
      |nil=>exact h
      |cons d ds=>exact h.elim
    |cons v vs=>exact h.elim
  | cons t ts ih=>
    intro vs ds p hr hlt hsp h
    cases vs with
    |nil=>exact h.elim
    | cons v vs=>
      cases ds with
      |nil=>exact h.elim
      | cons d ds=>
        obtain⟨p,q,h1,h2,rfl⟩:=h
        have ht:=hr t (by simp)
        exact⟨p,q,WideElems.Trod_stays hl ht.1 ht.2 h1 (fun x hx=>hb.same (hlt x (by simp[hx]))) (fun x hx=>hsp x (by simp[hx])),ih vs ds q (fun u hu=>hr u (by simp[hu])) (fun x hx=>hlt x (by simp[hx])) (fun x hx=>hsp x (by simp[hx])) h2,rfl⟩
theorem post_true {f:Func} {s:ChangeSpec} {W':World} {args:Array Value} {ds:List (DataW H)} {before:List MemPlace} (hl:laidOutB Tryz.prog=true) (hv:s.vars=[]) (hr:f.resultTypes=#[4]) (hs:s.fn H ds={results:=[.lit (.bool true)],args:=ds})
    (hrd:∀t∈f.params.toList,Tryz.prog.readableRec t=true∧t < Tryz.prog.types.size)
    (hW:DataW.Whole enc Tryz.prog f.params.toList s.vars false W args.toList ds [] before) (hb:Below W.heap.size W W'):s.post enc Tryz.prog f false true false false W args (.bool true) W':=by
  have hlt:∀p∈before,p.block < W.heap.size:=hW.lt
  have hW0:=hW
  rw[hv] at hW0
  obtain⟨p,q,hA,hV,rfl,hz,hn⟩:=hW0
  obtain rfl:q=[]:=hV
  rw[List.append_nil] at hlt hz
  have hold:∀x∈p,(fun b=>decide (b < W.heap.size)) x.block=true:=fun x hx=>by simpa using hlt x hx
  have hres:∀(b:Nat) (sp:Nat→Bool) (hd:Bool),DataW.TrodAll enc Tryz.prog W' b sp hd f.resultTypes.toList ((Value.bool true).resultList f.resultTypes.size) (s.fn H (ds ++[])).results []:=by
    intro b sp hd
    rw[List.append_nil,hs,hr]
    exact trodAll_cons_mk (shut_bool un4 _) trodAll_mk0
  have hargs:∀sp:Nat→Bool,(∀x∈p,sp x.block=true)→DataW.TrodAll enc Tryz.prog W' 0 sp true f.params.toList args.toList (s.fn H (ds ++[])).args p:=by
    intro sp hsp
    rw[List.append_nil,hs]
    exact stays hl hb _ _ _ _ hrd hlt hsp hA
  have hvars:∀sp:Nat→Bool,DataW.TrodVars enc Tryz.prog W' sp s.vars (s.fn H (ds ++[])).vars []:=by
    intro sp
    rw[List.append_nil,hs,hv]
    rfl
  refine⟨ds,[],p ++[],[],p,[],hW,hres _ _ _,hargs _ hold,hvars _,World.keptBut_mono (fun x hx=>⟨hx,?_⟩) (hb.frame (· ∈p ++[])),fun h=>by cases h⟩
  simpa using hx
theorem laid_gl {W:World} (h:laidMetH Tryz.prog [("math/bits.deBruijn32tab",Rows.laid_math_bits_deBruijn32tab)] W):Sub mach.gl (pub W):=by
  have ht:Lib.TabIs Tryz.prog W "math/bits.deBruijn32tab" .u8 debruijn:=
    Lib.tabIs_of_head (rest:=[]) (g:=0) (t:=152) (e:=5) (n:=32) (by kernel_rfl) (by kernel_rfl) (by kernel_rfl) (by kernel_rfl) (by kernel_rfl) (by kernel_rfl) h
  have hg:Tryz.prog.globalNamed "math/bits.deBruijn32tab"=some 0:=by kernel_rfl
  unfold Lib.TabIs World.var? at ht
  rw[hg] at ht
  intro b cs hb
  have hb':(if b=0 then some tabCells else none)=some cs:=hb
  split at hb'
  · rename_i e
    subst e
    cases hb'
    unfold pub
    simp only[Option.bind_some] at ht
    split at ht
    · rename_i hx
      rw[hx]
      simpa[tabCells] using ht
    · cases ht
  · cases hb'
end
end Go.Q
namespace Go.Q
open Go.Proofs
set_option maxRecDepth 100000
set_option maxHeartbeats 8000000
def Rv (h:PH) (v:Value) (q:Rat):Prop:=∃neg n d,Rw h v neg n d∧¬lg neg n d∧qof neg n d=q
theorem Rv.to {h h':PH} {v:Value} {q:Rat} (r:Rv h v q) [Le h h']:Rv h' v q:=let ⟨a,b,c,h1,h2⟩:=r;⟨a,b,c,h1.to,h2⟩
theorem Rv.of {h:PH} {v:Value} {q:Rat} (c:Cn h v q) (hs:sz q≤2048):Rv h v q:=⟨_,_,_,c.rw (Nat.le_trans hs (by decide)),by rw[lg_cn];omega,qof_cn q⟩
theorem Rv.sz {h:PH} {v:Value} {q:Rat} (r:Rv h v q):sz q≤2048:=by
  obtain⟨_,_,_,_,h2,rfl⟩:=r
  unfold lg at h2
  omega
theorem Rv.up {h:PH} {v:Value} {q:Rat} (r:Rv h v q):Go.Q.sz q≤2^36:=Nat.le_trans r.sz (by decide)
theorem Rv.sa {h:PH} {v:Value} {q:Rat} (r:Rv h v q):∃b na nl nc da dl dc,v=.agg #[.bool b,.slice na nl nc,.slice da dl dc]∧Rv h (.agg #[.bool b,.slice na nl nc,.slice da dl dc]) q:=by
  have r0:=r
  obtain⟨_,_,_,h1,_,_⟩:=r
  obtain⟨_,_,_,_,_,_,_,rfl,_⟩:=h1.sa
  exact⟨_,_,_,_,_,_,_,rfl,r0⟩
theorem Read_rv {h0 h:PH} [Le h0 h] {v:Value} {q:Rat} (hv:Rv h0 v q):Spec mach 100 #[v] h (fun r h'=>∃f,r=.tuple #[f,.bool true]∧Fr h' f q) NP:=by
  obtain⟨_,_,_,h1,h2,rfl⟩:=hv
  exact Read_ok h1 h2
def Nc (h:PH) (r:Value) (q:Rat):Prop:=∃b na nl nc da dl dc e,r=.tuple #[.agg #[.bool b,.slice na nl nc,.slice da dl dc],.int .i64 e]∧(e=1∧2048 < sz q∨e=0∧sz q≤2048∧Cn h (.agg #[.bool b,.slice na nl nc,.slice da dl dc]) q)
theorem Nc.mk {h:PH} {b:Bool} {na da:Option Addr} {nl nc dl dc:Nat} {e:Int} {q:Rat} (k:e=1∧2048 < sz q∨e=0∧sz q≤2048∧Cn h (.agg #[.bool b,.slice na nl nc,.slice da dl dc]) q):Nc h (.tuple #[.agg #[.bool b,.slice na nl nc,.slice da dl dc],.int .i64 e]) q:=⟨_,_,_,_,_,_,_,_,rfl,k⟩
theorem Nc.ok {h:PH} {r:Value} {q:Rat} (k:Nc h r q) (hs:sz q≤2048):∃b na nl nc da dl dc,r=.tuple #[.agg #[.bool b,.slice na nl nc,.slice da dl dc],.int .i64 0]∧Cn h (.agg #[.bool b,.slice na nl nc,.slice da dl dc]) q:=by
  obtain⟨_,_,_,_,_,_,_,_,rfl,⟨_,k⟩ |⟨rfl,_,k⟩⟩:=k
  · omega
  · exact⟨_,_,_,_,_,_,_,rfl,k⟩
theorem Give_nc {h0 h:PH} [Le h0 h] {v:Value} {x:Rat} (hx:Fr h0 v x):Spec mach 103 #[v] h (fun r h'=>Nc h' r x) NP:=by
  by_cases hs:sz x≤2048
  · refine(Give_ok hx hs).mono (fun r h' _ k=>?_) (fun _ _ _ k=>k)
    obtain⟨u,rfl,c⟩:=k
    obtain⟨_,_,_,_,_,_,_,rfl,c⟩:=c.sa
    exact Nc.mk (.inr ⟨rfl,hs,c⟩)
  · exact(Give_no hx hs).mono (fun r h' _ k=>by subst k;exact Nc.mk (.inl ⟨rfl,by omega⟩)) (fun _ _ _ k=>k)
end Go.Q
