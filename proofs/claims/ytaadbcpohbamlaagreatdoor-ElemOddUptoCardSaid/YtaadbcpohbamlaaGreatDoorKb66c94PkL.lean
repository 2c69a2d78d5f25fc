/-
  Contracts of the reference's rational numbers: reading, giving, sizes, signs. Conditions: the values are rational numbers (Rw, Qr), of at most 2^36 binary digits.
  Contracts of the reference's rational numbers: sizes, signs, sums, order. Conditions: the values are rational numbers (Rw, Qr), of at most 2^34 binary digits.
  Contracts of the reference's rational numbers: grids, quotients. Conditions: the values are rational numbers (Qr), of at most 2^30 binary digits.
  Contracts of the reference's rational numbers: rounding to grids, quotients, results. Conditions: the values are rational numbers (Qr), of at most 2^30 binary digits.
  Contract of package word: powers of natural numbers. Conditions: the slice holds words (N32), the power has at most 2^36 bits.
  Powers of numbers, plain: their order, their size; whole parts of roots, and the step that finds them. Conditions: none.
-/
import Derived.Test.YtaadbcpohbamlaaGreatDoorK704ff3PkK
import Derived.Test.YtaadbcpohbamlaaGreatDoorK309e69PkF
import Derived.Test.YtaadbcpohbamlaaGreatDoorK89a0c7PkH
set_option linter.unusedVariables false
set_option linter.unusedSimpArgs false
namespace Go.Q
open Go.Proofs
set_option maxRecDepth 100000
set_option maxHeartbeats 4000000
theorem bl_dz (d:Nat):bl (dz d)≤bl d+1:=by
  unfold dz;split
  · subst d;decide
  · omega
theorem words_N {h0 h:PH} [Le h0 h] {a:Option Addr} {c n L:Nat} {xs:List Nat} (ha:Arr h0 a c xs) (hl:xs.length=L) (hs:xs.length≤2^40) (hn:val 4294967296 xs=n):
    Spec mach 24 #[.slice a L c] h (fun v h'=>N16 h' v n) NP:=by subst hl hn;exact words_spec ha hs
theorem val_bl {xs:List Nat} (hlt:∀x∈xs,x < 4294967296):bl (val 4294967296 xs)≤32*xs.length:=by
  rw[bl_le,B_pow];exact val_lt (by decide) xs hlt
theorem QOf_spec {h0 h:PH} [Le h0 h] {v:Value} {neg:Bool} {n d:Nat} (hv:Rw h0 v neg n d):
    Spec mach 7 #[v] h (fun v h'=>Qr h' v (qof neg n d)) NP:=by
  obtain⟨a,c,xs,a',c',ys,rfl,ha,ha',hn,hd,hsx,hsy⟩:=hv
  have bn:bl n≤2^37:=by have:=val_bl ha.lt;rw[hn] at this;omega
  have bd:bl d≤2^37:=by have:=val_bl ha'.lt;rw[hd] at this;omega
  have bz:=bl_dz d
  refine Spec.enter (args:=[_]) (n:=18) Tryz.func7 rfl (by kernel_rfl) rfl (by simp) [.cell 2 28] rfl (fun C _=>?_)
  repeat (first |(refine wo rfl (fun k hk=>?_);simp(disch:=omega) only[go_sem,Nat.reduceBEq,Nat.reduceAdd];apply hk;clear hk k) |refine wkt rfl ?_ |refine wk0 ?_ |refine rg rfl rfl (fun K hK=>?_) |refine rd [.o 0,.o 1,.o 2,.o 3,.o 5,.o 4,.o 6,.o 7] rfl (by decide+kernel) rfl (fun K hK=>?_) |((first |refine AWP_exit ?_ |refine AWP_skip ?_);simp(disch:=decide) only[qs,qb,if_true,if_false,reduceIte]) |refine AWP_sq rfl (fun K hK=>?_) |refine ct rfl ?_ |((try simp(disch:=omega) only[go_sem,Nat.reduceBEq,Nat.reduceAdd]);(first |apply hK |(clear hK;apply hK) |(clear hK;clear hK;apply hK));clear hK;(try clear K);(try dsimp only[behind,qs,qb])))
  refine cN rfl rfl rfl rfl (by exact words_N ha' rfl (by omega) hd) ?_;rintro v1 h1 _ hv1;obtain⟨v1,v1_l,v1_c,rfl,hv1⟩:=hv1.sl;(repeat (first |(refine wo rfl (fun k hk=>?_);simp(disch:=omega) only[go_sem,Nat.reduceBEq,Nat.reduceAdd];apply hk;clear hk k) |refine wkt rfl ?_));(try refine wk0 ?_)
  (try (simp(disch:=omega) only[go_sem,Nat.reduceBEq,Nat.reduceAdd]));apply hK;clear hK;(try clear K);(try dsimp only[behind,qs])
  have l1:=hv1.len0
  refine AWP_sqs (fun K hK=>?_)
  have rest:∀(va:Option Addr) (vl vc:Nat) (h':PH) (S:AS),Le h0 h'→N16 h' (.slice va vl vc) (dz d)→S.le ⟨[(1,.p 0 0),(2,.p 1 0),(3,.v (.slice va vl vc))],[[.bool neg,.slice a xs.length c,.slice a' ys.length c'],[.bool false,.slice none 0 0,.slice none 0 0]]⟩→K S h':=by
    intro va vl vc h' S _ hz hS
    refine hK _ _ (AWP_le _ hS ?_);clear hK K
    (first |refine rg rfl rfl (fun K hK=>?_) |refine rd [.o 0,.o 1,.o 2,.o 3,.o 5,.o 4,.o 6,.o 7] rfl (by decide+kernel) rfl (fun K hK=>?_));(repeat (first |(refine wo rfl (fun k hk=>?_);simp(disch:=omega) only[go_sem,Nat.reduceBEq,Nat.reduceAdd];apply hk;clear hk k) |refine wkt rfl ?_));(try refine wk0 ?_)
    refine cN rfl rfl rfl rfl (by exact words_N ha rfl (by omega) hn) ?_;rintro v2 h2 _ hv2;obtain⟨v2,v2_l,v2_c,rfl,hv2⟩:=hv2.sl;(repeat (first |(refine wo rfl (fun k hk=>?_);simp(disch:=omega) only[go_sem,Nat.reduceBEq,Nat.reduceAdd];apply hk;clear hk k) |refine wkt rfl ?_));(try refine wk0 ?_)
    refine cN rfl rfl rfl rfl (by exact Make_spec (neg:=neg) hv2 (hz.to (h':=h2)) (by omega) (by omega)) ?_;rintro v3 h3 _ hv3;obtain⟨v3_0,v3_1,v3_2,v3_3,v3_4,v3_5,v3_6,rfl,hv3⟩:=hv3.sa;(repeat (first |(refine wo rfl (fun k hk=>?_);simp(disch:=omega) only[go_sem,Nat.reduceBEq,Nat.reduceAdd];apply hk;clear hk k) |refine wkt rfl ?_));(try refine wk0 ?_)
    (try (simp(disch:=omega) only[go_sem,Nat.reduceBEq,Nat.reduceAdd]));apply hK;clear hK;(try clear K);(try dsimp only[behind,qs])
    refine AWP_ret ?_;simp(disch:=omega) only[go_sem,Nat.reduceBEq,Nat.reduceAdd]
    exact hv3
  by_cases hd0:d=0
  · refine AWP_rs rfl (fun K hK=>?_);(repeat (first |(refine wo rfl (fun k hk=>?_);simp(disch:=omega) only[go_sem,Nat.reduceBEq,Nat.reduceAdd];apply hk;clear hk k) |refine wkt rfl ?_));(try refine wk0 ?_);(first |refine hK _ _ ?_ |(clear hK;refine hK _ _ ?_) |(clear hK;clear hK;refine hK _ _ ?_));clear hK;(try clear K)
    refine AWP_condT rfl ?_
    (first |refine rg rfl rfl (fun K hK=>?_) |refine rd [.o 0,.o 1,.o 2,.o 3,.o 5,.o 4,.o 6,.o 7] rfl (by decide+kernel) rfl (fun K hK=>?_));(repeat (first |(refine wo rfl (fun k hk=>?_);simp(disch:=omega) only[go_sem,Nat.reduceBEq,Nat.reduceAdd];apply hk;clear hk k) |refine wkt rfl ?_));(try refine wk0 ?_)
    refine cN rfl rfl rfl rfl (by exact NatOf_spec (n:=1) (by decide)) ?_;rintro w1 h2 _ hw1;obtain⟨w1,w1_l,w1_c,rfl,hw1⟩:=hw1.sl;(repeat (first |(refine wo rfl (fun k hk=>?_);simp(disch:=omega) only[go_sem,Nat.reduceBEq,Nat.reduceAdd];apply hk;clear hk k) |refine wkt rfl ?_));(try refine wk0 ?_)
    (try (simp(disch:=omega) only[go_sem,Nat.reduceBEq,Nat.reduceAdd]));apply hK;clear hK;(try clear K);(try dsimp only[behind,qs])
    refine rest _ _ _ _ _ inferInstance (by rw[hd0];exact hw1) ?_
    simp(disch:=omega) only[go_sem,Nat.reduceBEq,Nat.reduceAdd]
  · refine AWP_rs rfl (fun K hK=>?_);(repeat (first |(refine wo rfl (fun k hk=>?_);simp(disch:=omega) only[go_sem,Nat.reduceBEq,Nat.reduceAdd];apply hk;clear hk k) |refine wkt rfl ?_));(try refine wk0 ?_);(first |refine hK _ _ ?_ |(clear hK;refine hK _ _ ?_) |(clear hK;clear hK;refine hK _ _ ?_));clear hK;(try clear K)
    refine AWP_condF rfl ?_
    refine AWP_skip ?_;simp only[qs,qb,if_true,if_false,reduceIte]
    refine rest _ _ _ _ _ inferInstance (by rw[dz_self hd0];exact hv1) ?_
    simp(disch:=omega) only[go_sem,Nat.reduceBEq,Nat.reduceAdd]
theorem QRat_spec {h0 h:PH} [Le h0 h] {v:Value} {x:Rat} (hx:Qr h0 v x) (bx:sz x≤2^36):Spec mach 15 #[v] h (fun v h'=>Cn h' v x) NP:=by
  obtain⟨na,nl,nc,da,dl,dc,e,rfl,hn,hd,he⟩:=hx.sl
  have b1:=sz_num x;have b2:=sz_den x
  have b3:bl e≤sz x:=by
    rcases Nat.eq_zero_or_pos e with h |h
    · subst h;have:bl 0=0:=by decide
      omega
    · rw[dz_self (by omega)] at he;rw[he];exact b2
  have ln:=hn.len0
  obtain⟨neg,en⟩:∃b,decide (x.num < 0)=b:=⟨_,rfl⟩
  rw[en] at hx ⊢
  have hnn:neg=true→0 < nl:=by
    intro e1
    rw[e1,decide_eq_true_eq] at en
    rcases Nat.eq_zero_or_pos nl with h |h
    · have:=ln.1 h;omega
    · exact h
  refine Spec.enter (args:=[_]) (n:=24) Tryz.func15 rfl (by kernel_rfl) rfl (by simp) [.cell 2 24] rfl (fun C _=>?_)
  repeat (first |(refine rg rfl rfl (fun K hK=>?_);(repeat (first |(refine wo rfl (fun k hk=>?_);simp(disch:=omega) only[go_sem,Nat.reduceBEq,Nat.reduceAdd];apply hk;clear hk k) |refine wkt rfl ?_));(try refine wk0 ?_);apply hK;clear hK K;(try dsimp only[behind,qs,qb])) |((first |refine AWP_exit ?_ |refine AWP_skip ?_);simp(disch:=decide) only[qs,qb,if_true,if_false,reduceIte]) |refine AWP_sq rfl (fun K hK=>?_) |refine ct rfl ?_ |((first |refine hK _ _ ?_ |(clear hK;refine hK _ _ ?_) |(clear hK;clear hK;refine hK _ _ ?_));clear hK;(try clear K)))
  (first |refine AWP_t (.seg [.o 0,.o 1,.o 2,.o 3,.o 4,.o 5,.o 6,.o 7,.o 8,.o 9] (.alt 10 (.seg [.o 11] (.alt 12 (.alt 13 .done .no) .no)) (.alt 12 (.alt 10 (.seg [.o 11] (.alt 13 .done .no)) .no) .no))) (by decide+kernel) rfl (fun K hK=>?_) |refine AWP_tk (.seg [.o 0,.o 1,.o 2,.o 3,.o 4,.o 5,.o 6,.o 7,.o 8,.o 9] (.alt 10 (.seg [.o 11] (.alt 12 (.alt 13 .done .no) .no)) (.alt 12 (.alt 10 (.seg [.o 11] (.alt 13 .done .no)) .no) .no))) (by decide+kernel) rfl (fun K hK=>?_))
  have rest:∀(va:Option Addr) (vl vc:Nat) (h':PH) (S:AS),Le h0 h'→N32 h' (.slice va vl vc) x.num.natAbs→S.le ⟨[(1,.p 0 0),(2,.p 1 0),(3,.p 2 0)],[[.bool neg,.slice na nl nc,.slice da dl dc],[.bool false,.slice none 0 0,.slice none 0 0],[.bool neg,.slice va vl vc,.slice none 0 0]]⟩→K S h':=by
    intro va vl vc h' S _ hz hS
    refine hK _ _ (AWP_le _ hS ?_);clear hK K
    refine AWP_sqs (fun K hK=>?_)
    refine rg rfl rfl (fun K hK=>?_);(repeat (first |(refine wo rfl (fun k hk=>?_);simp(disch:=omega) only[go_sem,Nat.reduceBEq,Nat.reduceAdd];apply hk;clear hk k) |refine wkt rfl ?_ |with_reducible refine wk0 ?_ |with_reducible refine wt_seg ?_ |with_reducible refine wt_alt ?_ wt_no |with_reducible refine wt_done ?_))
    refine cN rfl rfl rfl rfl (by exact whole_spec hx) ?_;rintro v3 h3 s3 rfl;(repeat (first |(refine wo rfl (fun k hk=>?_);simp(disch:=omega) only[go_sem,Nat.reduceBEq,Nat.reduceAdd];apply hk;clear hk k) |refine wkt rfl ?_ |with_reducible refine wk0 ?_ |with_reducible refine wt_seg ?_ |with_reducible refine wt_alt ?_ wt_no |with_reducible refine wt_done ?_))
    by_cases h1:x.den=1
    · ((try (simp(disch:=omega) only[go_sem,Nat.reduceBEq,Nat.reduceAdd]));apply hK;clear hK;(try clear K);(try dsimp only[behind,qs]));(repeat (first |(refine rg rfl rfl (fun K hK=>?_);(repeat (first |(refine wo rfl (fun k hk=>?_);simp(disch:=omega) only[go_sem,Nat.reduceBEq,Nat.reduceAdd];apply hk;clear hk k) |refine wkt rfl ?_));(try refine wk0 ?_);apply hK;clear hK K;(try dsimp only[behind,qs,qb])) |((first |refine AWP_exit ?_ |refine AWP_skip ?_);simp(disch:=decide) only[qs,qb,if_true,if_false,reduceIte]) |refine AWP_sq rfl (fun K hK=>?_) |refine ct rfl ?_ |((first |refine hK _ _ ?_ |(clear hK;refine hK _ _ ?_) |(clear hK;clear hK;refine hK _ _ ?_));clear hK;(try clear K))))
      refine AWP_ret ?_;simp(disch:=omega) only[go_sem,Nat.reduceBEq,Nat.reduceAdd]
      exact⟨_,_,by rw[en],hz.to,by rw[if_pos h1];exact N32.zero _⟩
    · have e1:e=x.den:=by
        rw[←he] at h1 ⊢
        unfold dz at h1 ⊢
        split at h1
        · exact(h1 rfl).elim
        · rename_i h2;rw[if_neg h2]
      rw[e1] at hd b3
      ((try (simp(disch:=omega) only[go_sem,Nat.reduceBEq,Nat.reduceAdd]));apply hK;clear hK;(try clear K);(try dsimp only[behind,qs]));(repeat (first |(refine rg rfl rfl (fun K hK=>?_);(repeat (first |(refine wo rfl (fun k hk=>?_);simp(disch:=omega) only[go_sem,Nat.reduceBEq,Nat.reduceAdd];apply hk;clear hk k) |refine wkt rfl ?_));(try refine wk0 ?_);apply hK;clear hK K;(try dsimp only[behind,qs,qb])) |((first |refine AWP_exit ?_ |refine AWP_skip ?_);simp(disch:=decide) only[qs,qb,if_true,if_false,reduceIte]) |refine AWP_sq rfl (fun K hK=>?_) |refine ct rfl ?_ |((first |refine hK _ _ ?_ |(clear hK;refine hK _ _ ?_) |(clear hK;clear hK;refine hK _ _ ?_));clear hK;(try clear K))));(refine rg rfl rfl (fun K hK=>?_);(repeat (first |(refine wo rfl (fun k hk=>?_);simp(disch:=omega) only[go_sem,Nat.reduceBEq,Nat.reduceAdd];apply hk;clear hk k) |refine wkt rfl ?_ |with_reducible refine wk0 ?_ |with_reducible refine wt_seg ?_ |with_reducible refine wt_alt ?_ wt_no |with_reducible refine wt_done ?_)))
      refine cN rfl rfl rfl rfl (by exact list_spec hd (by omega)) ?_;rintro v4 h4 _ hv4;obtain⟨v4,v4_l,v4_c,rfl,hv4⟩:=hv4.sl;(repeat (first |(refine wo rfl (fun k hk=>?_);simp(disch:=omega) only[go_sem,Nat.reduceBEq,Nat.reduceAdd];apply hk;clear hk k) |refine wkt rfl ?_ |with_reducible refine wk0 ?_ |with_reducible refine wt_seg ?_ |with_reducible refine wt_alt ?_ wt_no |with_reducible refine wt_done ?_))
      ((try (simp(disch:=omega) only[go_sem,Nat.reduceBEq,Nat.reduceAdd]));apply hK;clear hK;(try clear K);(try dsimp only[behind,qs]));(repeat (first |(refine rg rfl rfl (fun K hK=>?_);(repeat (first |(refine wo rfl (fun k hk=>?_);simp(disch:=omega) only[go_sem,Nat.reduceBEq,Nat.reduceAdd];apply hk;clear hk k) |refine wkt rfl ?_));(try refine wk0 ?_);apply hK;clear hK K;(try dsimp only[behind,qs,qb])) |((first |refine AWP_exit ?_ |refine AWP_skip ?_);simp(disch:=decide) only[qs,qb,if_true,if_false,reduceIte]) |refine AWP_sq rfl (fun K hK=>?_) |refine ct rfl ?_ |((first |refine hK _ _ ?_ |(clear hK;refine hK _ _ ?_) |(clear hK;clear hK;refine hK _ _ ?_));clear hK;(try clear K))))
      refine AWP_ret ?_;simp(disch:=omega) only[go_sem,Nat.reduceBEq,Nat.reduceAdd]
      exact⟨_,_,by rw[en],hz.to,by rw[if_neg h1];exact hv4⟩
  cases neg with
  | true=>
    have hnn':=hnn rfl
    (repeat (first |(refine wo rfl (fun k hk=>?_);simp(disch:=omega) only[go_sem,Nat.reduceBEq,Nat.reduceAdd];apply hk;clear hk k) |refine wkt rfl ?_ |with_reducible refine wk0 ?_ |with_reducible refine wt_seg ?_ |with_reducible refine wt_alt ?_ wt_no |with_reducible refine wt_done ?_))
    refine wt_alt ?_ (wt_alt ?_ wt_no)
    · refine cN rfl rfl rfl rfl (by exact list_spec hn (by omega)) ?_;rintro v2 h2 _ hv2;obtain⟨v2,v2_l,v2_c,rfl,hv2⟩:=hv2.sl;(repeat (first |(refine wo rfl (fun k hk=>?_);simp(disch:=omega) only[go_sem,Nat.reduceBEq,Nat.reduceAdd];apply hk;clear hk k) |refine wkt rfl ?_ |with_reducible refine wk0 ?_ |with_reducible refine wt_seg ?_ |with_reducible refine wt_alt ?_ wt_no |with_reducible refine wt_done ?_))
      refine rest _ _ _ _ _ inferInstance hv2 ?_
      simp(disch:=omega) only[go_sem,Nat.reduceBEq,Nat.reduceAdd]
    · (repeat (first |(refine wo rfl (fun k hk=>?_);simp(disch:=omega) only[go_sem,Nat.reduceBEq,Nat.reduceAdd];apply hk;clear hk k) |refine wkt rfl ?_ |with_reducible refine wk0 ?_ |with_reducible refine wt_seg ?_ |with_reducible refine wt_alt ?_ wt_no |with_reducible refine wt_done ?_))
      refine cN rfl rfl rfl rfl (by exact list_spec hn (by omega)) ?_;rintro v2 h2 _ hv2;obtain⟨v2,v2_l,v2_c,rfl,hv2⟩:=hv2.sl;(repeat (first |(refine wo rfl (fun k hk=>?_);simp(disch:=omega) only[go_sem,Nat.reduceBEq,Nat.reduceAdd];apply hk;clear hk k) |refine wkt rfl ?_ |with_reducible refine wk0 ?_ |with_reducible refine wt_seg ?_ |with_reducible refine wt_alt ?_ wt_no |with_reducible refine wt_done ?_))
      refine rest _ _ _ _ _ inferInstance hv2 ?_
      simp(disch:=omega) only[go_sem,Nat.reduceBEq,Nat.reduceAdd]
  | false=>
    (repeat (first |(refine wo rfl (fun k hk=>?_);simp(disch:=omega) only[go_sem,Nat.reduceBEq,Nat.reduceAdd];apply hk;clear hk k) |refine wkt rfl ?_ |with_reducible refine wk0 ?_ |with_reducible refine wt_seg ?_ |with_reducible refine wt_alt ?_ wt_no |with_reducible refine wt_done ?_))
    refine wt_alt ?_ (wt_alt ?_ wt_no)
    · refine cN rfl rfl rfl rfl (by exact list_spec hn (by omega)) ?_;rintro v2 h2 _ hv2;obtain⟨v2,v2_l,v2_c,rfl,hv2⟩:=hv2.sl;(repeat (first |(refine wo rfl (fun k hk=>?_);simp(disch:=omega) only[go_sem,Nat.reduceBEq,Nat.reduceAdd];apply hk;clear hk k) |refine wkt rfl ?_ |with_reducible refine wk0 ?_ |with_reducible refine wt_seg ?_ |with_reducible refine wt_alt ?_ wt_no |with_reducible refine wt_done ?_))
      refine rest _ _ _ _ _ inferInstance hv2 ?_
      simp(disch:=omega) only[go_sem,Nat.reduceBEq,Nat.reduceAdd]
    · (repeat (first |(refine wo rfl (fun k hk=>?_);simp(disch:=omega) only[go_sem,Nat.reduceBEq,Nat.reduceAdd];apply hk;clear hk k) |refine wkt rfl ?_ |with_reducible refine wk0 ?_ |with_reducible refine wt_seg ?_ |with_reducible refine wt_alt ?_ wt_no |with_reducible refine wt_done ?_))
      refine cN rfl rfl rfl rfl (by exact list_spec hn (by omega)) ?_;rintro v2 h2 _ hv2;obtain⟨v2,v2_l,v2_c,rfl,hv2⟩:=hv2.sl;(repeat (first |(refine wo rfl (fun k hk=>?_);simp(disch:=omega) only[go_sem,Nat.reduceBEq,Nat.reduceAdd];apply hk;clear hk k) |refine wkt rfl ?_ |with_reducible refine wk0 ?_ |with_reducible refine wt_seg ?_ |with_reducible refine wt_alt ?_ wt_no |with_reducible refine wt_done ?_))
      refine rest _ _ _ _ _ inferInstance hv2 ?_
      simp(disch:=omega) only[go_sem,Nat.reduceBEq,Nat.reduceAdd]
end Go.Q
namespace Go.Q
open Go.Proofs
set_option maxRecDepth 100000
set_option maxHeartbeats 4000000
theorem W16_len_bl {n k:Nat}:(W 65536 n).length≤k↔bl n≤16*k:=by
  rw[bl_le,B16_pow]
  refine⟨fun h=>?_,fun h=>W_length_le (by decide) h⟩
  exact Nat.lt_of_lt_of_le (lt_W_length (by decide) n) (Nat.pow_le_pow_right (by decide) h)
theorem N16.len {h:PH} {a:Option Addr} {l c n k:Nat} (r:N16 h (.slice a l c) n):l≤k↔bl n≤16*k:=by
  obtain⟨a',c',h1,_⟩:=r
  cases h1
  exact W16_len_bl
theorem Sgn_spec {h0 h:PH} [Le h0 h] {v:Value} {x:Rat} (hx:Qr h0 v x):Spec mach 14 #[v] h (fun v _=>v=.int .i64 (sgn3 x)) NP:=by
  obtain⟨na,nl,nc,da,dl,dc,e,rfl,hn,hd,he⟩:=hx.sl
  have ln:=hn.len0
  refine Spec.go [] Tryz.func14 rfl rfl (by kernel_rfl) fun C _=>?_
  try simp(maxSteps:=999999) (disch:=omega) only[go_sem,Nat.reduceBEq,Nat.reduceAdd]
  by_cases h0:x.num=0
  · have e1:x=0:=Rat.num_eq_zero.1 h0
    try simp(maxSteps:=999999) (disch:=omega) only[go_sem,Nat.reduceBEq,Nat.reduceAdd]
    subst e1;simp[sgn3]
  · by_cases h1:x.num < 0
    · have e1:decide (x.num < 0)=true:=decide_eq_true h1
      try simp(maxSteps:=999999) (disch:=omega) only[go_sem,Nat.reduceBEq,Nat.reduceAdd,e1]
      rw[sgn3,if_pos (num_neg.1 h1)]
    · have e1:decide (x.num < 0)=false:=decide_eq_false h1
      have e2:0 < x.num:=by omega
      try simp(maxSteps:=999999) (disch:=omega) only[go_sem,Nat.reduceBEq,Nat.reduceAdd,e1]
      rw[sgn3,if_neg (fun h=>h1 (num_neg.2 h)),if_pos (num_pos.1 e2)]
theorem Opp_spec {h0 h:PH} [Le h0 h] {v:Value} {x:Rat} (hx:Qr h0 v x):Spec mach 9 #[v] h (fun v h'=>Qr h' v (-x)) NP:=by
  obtain⟨na,nl,nc,da,dl,dc,e,rfl,hn,hd,he⟩:=hx.sl
  have ln:=hn.len0
  have hn2:N16 h0 (.slice na nl nc) (-x).num.natAbs:=by simpa using hn
  refine Spec.go [] Tryz.func9 rfl rfl (by kernel_rfl) fun C _=>?_
  try simp(maxSteps:=999999) (disch:=omega) only[go_sem,Nat.reduceBEq,Nat.reduceAdd]
  by_cases h1:x.num < 0
  · have e1:decide (x.num < 0)=true:=decide_eq_true h1
    have e2:decide ((-x).num < 0)=false:=by rw[Rat.neg_num,decide_eq_false_iff_not];omega
    try simp(maxSteps:=999999) (disch:=omega) only[go_sem,Nat.reduceBEq,Nat.reduceAdd,e1]
    exact⟨_,_,e,by rw[e2],hn2.to,hd.to,he⟩
  · have e1:decide (x.num < 0)=false:=decide_eq_false h1
    by_cases h0:x.num=0
    · have e2:decide ((-x).num < 0)=false:=by rw[Rat.neg_num,decide_eq_false_iff_not];omega
      try simp(maxSteps:=999999) (disch:=omega) only[go_sem,Nat.reduceBEq,Nat.reduceAdd,e1]
      exact⟨_,_,e,by rw[e2],hn2.to,hd.to,he⟩
    · have e2:decide ((-x).num < 0)=true:=by rw[Rat.neg_num,decide_eq_true_eq];omega
      have e3:0 < nl:=by omega
      try simp(maxSteps:=999999) (disch:=omega) only[go_sem,Nat.reduceBEq,Nat.reduceAdd,e1]
      exact⟨_,_,e,by rw[e2],hn2.to,hd.to,he⟩
theorem Sum_spec {h0 h:PH} [Le h0 h] {v w:Value} {x y:Rat} (hx:Qr h0 v x) (hy:Qr h0 w y) (bx:sz x≤2^35) (by_:sz y≤2^35):
    Spec mach 28 #[v,w] h (fun v h'=>Qr h' v (x+y)) NP:=by
  have hx0:=hx
  have hy0:=hy
  obtain⟨na,nl,nc,da,dl,dc,e,rfl,hn,hd,he⟩:=hx.sl
  obtain⟨na',nl',nc',da',dl',dc',e',rfl,hn',hd',he'⟩:=hy.sl
  have b1:=sz_num x;have b2:=sz_den x;have b3:=sz_num y;have b4:=sz_den y
  have b5:=bl_mul x.num.natAbs y.den
  have b6:=bl_mul y.num.natAbs x.den
  have b7:=bl_mul x.den y.den
  have b8:=bl_add (x.num.natAbs*y.den) (y.num.natAbs*x.den)
  have b9:=bl_mono (Nat.sub_le (x.num.natAbs*y.den) (y.num.natAbs*x.den))
  have b10:=bl_mono (Nat.sub_le (y.num.natAbs*x.den) (x.num.natAbs*y.den))
  obtain⟨n1,en1⟩:∃b,decide (x.num < 0)=b:=⟨_,rfl⟩
  obtain⟨n2,en2⟩:∃b,decide (y.num < 0)=b:=⟨_,rfl⟩
  rw[en1] at hx0 ⊢
  rw[en2] at hy0 ⊢
  refine Spec.go [(1,.o [0,1,2,5,6,7,3,4,8,9,10,11]),(2,.o [0,2,1,3,4,5]),(4,.o [0,1,2,3,5,4,6,7]),(6,.o [0,1,2,3,5,4,6,7]),(7,.o [0,1,2,3,5,4,6,7])] Tryz.func28 rfl rfl (by kernel_rfl) fun C _=>?_
  try simp(maxSteps:=999999) (disch:=omega) only[go_sem,Nat.reduceBEq,Nat.reduceAdd]
  refine caN (by exact den_spec hy0) ?_;rintro _ g1 _ hd1;obtain⟨_,_,_,rfl,hd1⟩:=hd1.sl
  try simp(maxSteps:=999999) (disch:=omega) only[go_sem,Nat.reduceBEq,Nat.reduceAdd]
  refine caN (by exact NatMul_spec (hn.to (h':=g1)) hd1 (by omega) (by omega)) ?_;rintro _ h1 _ hv1;obtain⟨v1,_,_,rfl,hv1⟩:=hv1.sl
  try simp(maxSteps:=999999) (disch:=omega) only[go_sem,Nat.reduceBEq,Nat.reduceAdd]
  refine caN (by exact den_spec hx0) ?_;rintro _ g2 _ hd2;obtain⟨_,_,_,rfl,hd2⟩:=hd2.sl
  try simp(maxSteps:=999999) (disch:=omega) only[go_sem,Nat.reduceBEq,Nat.reduceAdd]
  refine caN (by exact NatMul_spec (hn'.to (h':=g2)) hd2 (by omega) (by omega)) ?_;rintro _ h2 _ hv2;obtain⟨v2,_,_,rfl,hv2⟩:=hv2.sl
  try simp(maxSteps:=999999) (disch:=omega) only[go_sem,Nat.reduceBEq,Nat.reduceAdd]
  refine caN (by exact den_spec hx0) ?_;rintro _ g3 _ hd3;obtain⟨_,_,_,rfl,hd3⟩:=hd3.sl
  try simp(maxSteps:=999999) (disch:=omega) only[go_sem,Nat.reduceBEq,Nat.reduceAdd]
  refine caN (by exact den_spec hy0) ?_;rintro _ g4 _ hd4;obtain⟨_,_,_,rfl,hd4⟩:=hd4.sl
  try simp(maxSteps:=999999) (disch:=omega) only[go_sem,Nat.reduceBEq,Nat.reduceAdd]
  refine caN (by exact NatMul_spec (hd3.to (h':=g4)) hd4 (by omega) (by omega)) ?_;rintro _ h3 _ hv3;obtain⟨v3,_,_,rfl,hv3⟩:=hv3.sl
  try simp(maxSteps:=999999) (disch:=omega) only[go_sem,Nat.reduceBEq,Nat.reduceAdd]
  by_cases hee:n1=n2
  · subst hee
    try simp(maxSteps:=999999) (disch:=omega) only[go_sem,Nat.reduceBEq,Nat.reduceAdd]
    refine caN (by exact NatAdd_spec (hv1.to (h':=h2)) hv2 (by omega) (by omega)) ?_;rintro _ h4 _ hv4;obtain⟨v4,_,_,rfl,hv4⟩:=hv4.sl
    try simp(maxSteps:=999999) (disch:=omega) only[go_sem,Nat.reduceBEq,Nat.reduceAdd]
    refine caN (by exact Make_spec (hv4.to (h':=h4)) hv3.to (by omega) (by omega)) ?_;rintro _ h5 _ hv5;obtain⟨_,_,_,_,_,_,_,rfl,hv5⟩:=hv5.sa
    try simp(maxSteps:=999999) (disch:=omega) only[go_sem,Nat.reduceBEq,Nat.reduceAdd]
    rw[sgn_same en1 en2] at hv5
    exact hv5
  · have hb:(n1 == n2)=false:=by cases n1<;>cases n2<;>simp_all
    have hb':n2=!n1:=by cases n1<;>cases n2<;>simp_all
    try simp(maxSteps:=999999) (disch:=omega) only[go_sem,Nat.reduceBEq,Nat.reduceAdd,hb]
    refine caN (by exact NatCmp_spec (hv1.to (h':=h2)) hv2) ?_;rintro v4 h4 s4 rfl
    try simp(maxSteps:=999999) (disch:=omega) only[go_sem,Nat.reduceBEq,Nat.reduceAdd]
    by_cases hle:y.num.natAbs*x.den≤x.num.natAbs*y.den
    · have hc:0≤cmp3 (x.num.natAbs*y.den) (y.num.natAbs*x.den):=by simp only[cmp3,if_neg (Nat.not_lt.2 hle)];split<;>decide
      try simp(maxSteps:=999999) (disch:=omega) only[go_sem,Nat.reduceBEq,Nat.reduceAdd]
      refine caN (by exact NatSub_spec (hv1.to (h':=h2)) hv2 hle (by omega)) ?_;rintro _ h5 _ hv5;obtain⟨v5,_,_,rfl,hv5⟩:=hv5.sl
      try simp(maxSteps:=999999) (disch:=omega) only[go_sem,Nat.reduceBEq,Nat.reduceAdd]
      refine caN (by exact Make_spec (hv5.to (h':=h5)) hv3.to (by omega) (by omega)) ?_;rintro _ h6 _ hv6;obtain⟨_,_,_,_,_,_,_,rfl,hv6⟩:=hv6.sa
      try simp(maxSteps:=999999) (disch:=omega) only[go_sem,Nat.reduceBEq,Nat.reduceAdd]
      rw[sgn_diff en1 (by rw[en2,hb']) hle] at hv6
      exact hv6
    · have hc:¬0≤cmp3 (x.num.natAbs*y.den) (y.num.natAbs*x.den):=by simp only[cmp3,if_pos (Nat.not_le.1 hle)];decide
      try simp(maxSteps:=999999) (disch:=omega) only[go_sem,Nat.reduceBEq,Nat.reduceAdd]
      refine caN (by exact NatSub_spec (hv2.to (h':=h2)) (hv1.to (h':=h2)) (Nat.le_of_lt (Nat.not_le.1 hle)) (by omega)) ?_;rintro _ h5 _ hv5;obtain⟨v5,_,_,rfl,hv5⟩:=hv5.sl
      try simp(maxSteps:=999999) (disch:=omega) only[go_sem,Nat.reduceBEq,Nat.reduceAdd]
      refine caN (by exact Make_spec (hv5.to (h':=h5)) hv3.to (by omega) (by omega)) ?_;rintro _ h6 _ hv6;obtain⟨_,_,_,_,_,_,_,rfl,hv6⟩:=hv6.sa
      try simp(maxSteps:=999999) (disch:=omega) only[go_sem,Nat.reduceBEq,Nat.reduceAdd]
      rw[Nat.mul_comm x.den,sgn_diff en2 (by rw[en1,hb',Bool.not_not]) (Nat.le_of_lt (Nat.not_le.1 hle)),Rat.add_comm] at hv6
      exact hv6
theorem Diff_spec {h0 h:PH} [Le h0 h] {v w:Value} {x y:Rat} (hx:Qr h0 v x) (hy:Qr h0 w y) (bx:sz x≤2^35) (by_:sz y≤2^35):
    Spec mach 29 #[v,w] h (fun v h'=>Qr h' v (x - y)) NP:=by
  obtain⟨_,_,_,_,_,_,_,rfl,hx⟩:=hx.sa
  obtain⟨_,_,_,_,_,_,_,rfl,hy⟩:=hy.sa
  refine Spec.go [] Tryz.func29 rfl rfl (by kernel_rfl) fun C _=>?_
  try simp(maxSteps:=999999) (disch:=omega) only[go_sem,Nat.reduceBEq,Nat.reduceAdd]
  refine caN (by exact Opp_spec hy) ?_;rintro _ h1 _ hv1;obtain⟨_,_,_,_,_,_,_,rfl,hv1⟩:=hv1.sa
  try simp(maxSteps:=999999) (disch:=omega) only[go_sem,Nat.reduceBEq,Nat.reduceAdd]
  refine caN (by exact Sum_spec (hx.to (h':=h1)) hv1 bx (by rw[sz_neg];exact by_)) ?_;rintro _ h2 _ hv2;obtain⟨_,_,_,_,_,_,_,rfl,hv2⟩:=hv2.sa
  try simp(maxSteps:=999999) (disch:=omega) only[go_sem,Nat.reduceBEq,Nat.reduceAdd]
  rw[Rat.sub_eq_add_neg];exact hv2
theorem sz_sub (x y:Rat):sz (x - y)≤sz x+sz y+1:=by
  rw[Rat.sub_eq_add_neg]
  have:=sz_add x (-y)
  rw[sz_neg] at this;exact this
theorem sgn3_sub (x y:Rat):sgn3 (x - y)=cmpQ x y:=by
  unfold sgn3 cmpQ;grind
theorem QCmp_spec {h0 h:PH} [Le h0 h] {v w:Value} {x y:Rat} (hx:Qr h0 v x) (hy:Qr h0 w y) (bx:sz x≤2^34) (by_:sz y≤2^34):
    Spec mach 11 #[v,w] h (fun v _=>v=.int .i64 (cmpQ x y)) NP:=by
  obtain⟨_,_,_,_,_,_,_,rfl,hx⟩:=hx.sa
  obtain⟨_,_,_,_,_,_,_,rfl,hy⟩:=hy.sa
  refine Spec.go [] Tryz.func11 rfl rfl (by kernel_rfl) fun C _=>?_
  try simp(maxSteps:=999999) (disch:=omega) only[go_sem,Nat.reduceBEq,Nat.reduceAdd]
  refine caN (by exact Diff_spec hx hy (by omega) (by omega)) ?_;rintro _ h1 _ hv1;obtain⟨_,_,_,_,_,_,_,rfl,hv1⟩:=hv1.sa
  try simp(maxSteps:=999999) (disch:=omega) only[go_sem,Nat.reduceBEq,Nat.reduceAdd]
  refine caN (by exact Sgn_spec hv1) ?_;rintro v2 h2 s2 rfl
  try simp(maxSteps:=999999) (disch:=omega) only[go_sem,Nat.reduceBEq,Nat.reduceAdd]
  rw[sgn3_sub]
end Go.Q
namespace Go.Q
open Go.Proofs
set_option maxRecDepth 100000
set_option maxHeartbeats 4000000
theorem signed_mul (x:Rat) (k:Nat):(if decide (x.num < 0)=true then -((x.num.natAbs*k:Nat):Int) else ((x.num.natAbs*k:Nat):Int))=x.num*k:=by
  generalize x.num=a
  by_cases h:a < 0
  · obtain⟨m,rfl⟩:∃m:Nat,a= -(m:Int):=⟨a.natAbs,by omega⟩
    rw[decide_eq_true h,if_pos rfl];simp[Int.neg_mul]
  · obtain⟨m,rfl⟩:∃m:Nat,a=(m:Int):=⟨a.natAbs,by omega⟩
    rw[decide_eq_false h,if_neg (by simp)];simp
theorem sgn_scale (x:Rat) (p:Nat):sgn (decide (x.num < 0)) (x.num.natAbs*2^p) x.den=x*2^p:=by
  rw[scaled]
  unfold sgn
  rw[signed_mul]
  congr 1
theorem two_pow_pos (p:Nat):(0:Rat) < 2^p:=Rat.pow_pos (by decide)
theorem sgn_unscale (x:Rat) (p:Nat):sgn (decide (x.num < 0)) x.num.natAbs (x.den*2^p)=x / 2^p:=by
  have h2:(2^p:Nat)≠0:=Nat.ne_of_gt (Nat.pow_pos (by decide))
  have e:sgn (decide (x.num < 0)) x.num.natAbs (x.den*2^p)*2^p=x:=by
    unfold sgn
    have h1:=signed_mul x 1
    simp only[Nat.mul_one] at h1
    rw[h1,show(2:Rat)^p=mkRat (2^p:Nat) 1 from by rw[Rat.mkRat_eq_div,Rat.div_def];simp[inv_one],Rat.mkRat_mul_mkRat]
    have:mkRat (x.num*((1:Nat):Int)*((2^p:Nat):Int)) (x.den*2^p*1)=mkRat x.num x.den:=by
      rw[Nat.mul_one]
      simp only[Int.natCast_one,Int.mul_one]
      exact Rat.mkRat_mul_right h2
    rw[this,Rat.mkRat_self]
  have hp:=two_pow_pos p
  have h3:=Rat.mul_div_cancel (a:=sgn (decide (x.num < 0)) x.num.natAbs (x.den*2^p)) (Rat.ne_of_gt hp)
  rw[e] at h3
  exact h3.symm
theorem sz_two (p:Nat):sz ((2:Rat)^p)≤p+1:=by
  unfold sz
  have h1:((2:Rat)^p).num.natAbs=2^p:=by simp[Int.natAbs_pow]
  have h2:((2:Rat)^p).den=1:=by simp
  rw[h1,h2]
  have:=bl_pow2 p
  have h3:bl 1=1:=by decide
  omega
theorem sz_scale (x:Rat) (p:Nat):sz (x*2^p)≤sz x+p+1:=by
  have:=sz_mul x (2^p);have:=sz_two p;omega
theorem sz_unscale (x:Rat) (p:Nat):sz (x / 2^p)≤sz x+p+1:=by
  rw[Rat.div_def]
  have:=sz_mul x (2^p)⁻¹;have:=sz_inv ((2:Rat)^p);have:=sz_two p;omega
theorem sz_pos (x:Rat):1≤sz x:=by
  have h1:bl 1≤bl x.den:=bl_mono (Nat.pos_of_ne_zero x.den_nz)
  have h2:bl 1=1:=by decide
  have:=sz_den x;omega
theorem sz_int (n:Int):sz (n:Rat)≤max (bl n.natAbs) 1:=by
  unfold sz
  rw[Rat.num_intCast,Rat.den_intCast,show bl 1=1 from by decide]
  exact Nat.le_refl _
theorem sz_floor (x:Rat):sz (x.floor:Rat)≤sz x:=by
  have h1:=sz_int x.floor
  have h2:x.floor.natAbs≤x.num.natAbs:=by rw[Rat.floor_def];exact Int.natAbs_ediv_le_natAbs _ _
  have h3:=bl_mono h2
  have:=sz_num x;have:=sz_pos x;omega
theorem Scaled_spec {h0 h:PH} [Le h0 h] {v:Value} {x:Rat} {p:Nat} (hx:Qr h0 v x) (bx:sz x≤2^34) (hp:p≤2^34):
    Spec mach 107 #[v,.int .i64 p] h (fun v h'=>Qr h' v (x*2^p)) NP:=by
  have hx0:=hx
  obtain⟨na,nl,nc,da,dl,dc,e,rfl,hn,hd,he⟩:=hx.sl
  have b1:=sz_num x;have b2:=sz_den x;have b3:=bl_shl x.num.natAbs p
  have hs:=sgn_scale x p
  obtain⟨n1,en1⟩:∃b,decide (x.num < 0)=b:=⟨_,rfl⟩
  rw[en1] at hx0 hs ⊢
  refine Spec.enter (args:=[_,_]) (n:=26) Tryz.func107 rfl (by kernel_rfl) rfl (by simp) [.cell 4 28] rfl (fun C _=>?_)
  repeat (first |(refine wo rfl (fun k hk=>?_);simp(disch:=omega) only[go_sem,Nat.reduceBEq,Nat.reduceAdd];apply hk;clear hk k) |refine wkt rfl ?_ |refine wk0 ?_ |refine rg rfl rfl (fun K hK=>?_) |refine rd [.o 0,.o 1,.o 2,.o 3,.o 4,.o 6,.o 7,.o 5,.o 8,.o 9,.o 10] rfl (by decide+kernel) rfl (fun K hK=>?_) |refine rd [.o 0,.o 1,.o 2,.o 3,.o 4,.o 6,.o 5,.o 7,.o 8,.o 9] rfl (by decide+kernel) rfl (fun K hK=>?_) |((first |refine AWP_exit ?_ |refine AWP_skip ?_);simp(disch:=decide) only[qs,qb,if_true,if_false,reduceIte]) |refine AWP_sq rfl (fun K hK=>?_) |refine ct rfl ?_ |((try simp(disch:=omega) only[go_sem,Nat.reduceBEq,Nat.reduceAdd]);(first |apply hK |(clear hK;apply hK) |(clear hK;clear hK;apply hK));clear hK;(try clear K);(try dsimp only[behind,qs,qb])))
  refine cN rfl rfl rfl rfl (by exact NatShl_spec (n:=p) hn (by omega)) ?_;rintro v1 h1 _ hv1;obtain⟨v1,v1_l,v1_c,rfl,hv1⟩:=hv1.sl;(repeat (first |(refine wo rfl (fun k hk=>?_);simp(disch:=omega) only[go_sem,Nat.reduceBEq,Nat.reduceAdd];apply hk;clear hk k) |refine wkt rfl ?_));(try refine wk0 ?_)
  refine cN rfl rfl rfl rfl (by exact den_spec hx0) ?_;rintro v2 h2 _ hv2;obtain⟨v2,v2_l,v2_c,rfl,hv2⟩:=hv2.sl;(repeat (first |(refine wo rfl (fun k hk=>?_);simp(disch:=omega) only[go_sem,Nat.reduceBEq,Nat.reduceAdd];apply hk;clear hk k) |refine wkt rfl ?_));(try refine wk0 ?_)
  refine cN rfl rfl rfl rfl (by exact Make_spec (neg:=n1) (hv1.to (h':=h2)) hv2 (by omega) (by omega)) ?_;rintro v3 h3 _ hv3;obtain⟨v3_0,v3_1,v3_2,v3_3,v3_4,v3_5,v3_6,rfl,hv3⟩:=hv3.sa;(repeat (first |(refine wo rfl (fun k hk=>?_);simp(disch:=omega) only[go_sem,Nat.reduceBEq,Nat.reduceAdd];apply hk;clear hk k) |refine wkt rfl ?_));(try refine wk0 ?_)
  (try (simp(disch:=omega) only[go_sem,Nat.reduceBEq,Nat.reduceAdd]));apply hK;clear hK;(try clear K);(try dsimp only[behind,qs])
  refine AWP_ret ?_;simp(disch:=omega) only[go_sem,Nat.reduceBEq,Nat.reduceAdd]
  rw[hs] at hv3;exact hv3
theorem Unscaled_spec {h0 h:PH} [Le h0 h] {v:Value} {x:Rat} {p:Nat} {i:Int} (hx:Qr h0 v x) (hi:i= -(p:Int)) (bx:sz x≤2^34) (hp:p≤2^34):
    Spec mach 107 #[v,.int .i64 i] h (fun v h'=>Qr h' v (x / 2^p)) NP:=by
  by_cases h0':p=0
  · subst h0'
    have:i=((0:Nat):Int):=by omega
    subst this
    have e:x / 2^0=x*2^0:=by simp[Rat.div_def,inv_one]
    rw[e];exact Scaled_spec hx bx (by decide)
  subst hi
  have hx0:=hx
  obtain⟨na,nl,nc,da,dl,dc,e,rfl,hn,hd,he⟩:=hx.sl
  have b1:=sz_num x;have b2:=sz_den x;have b3:=bl_shl x.den p
  have hs:=sgn_unscale x p
  obtain⟨n1,en1⟩:∃b,decide (x.num < 0)=b:=⟨_,rfl⟩
  rw[en1] at hx0 hs ⊢
  have e1:IntKind.i64.wrap (0 - -(p:Int))=(p:Int):=by rw[wi64 (by omega) (by omega)];omega
  refine Spec.enter (args:=[_,_]) (n:=26) Tryz.func107 rfl (by kernel_rfl) rfl (by simp) [.cell 4 28] rfl (fun C _=>?_)
  repeat (first |((first |refine rg rfl rfl (fun K hK=>?_) |refine rd [.o 0,.o 1,.o 2,.o 3,.o 4,.o 6,.o 7,.o 5,.o 8,.o 9,.o 10] rfl (by decide+kernel) rfl (fun K hK=>?_) |refine rd [.o 0,.o 1,.o 2,.o 3,.o 4,.o 6,.o 5,.o 7,.o 8,.o 9] rfl (by decide+kernel) rfl (fun K hK=>?_));(repeat (first |(refine wo rfl (fun k hk=>?_);simp(disch:=omega) only[go_sem,Nat.reduceBEq,Nat.reduceAdd,e1];apply hk;clear hk k) |refine wkt rfl ?_));(try refine wk0 ?_);apply hK;clear hK K;(try dsimp only[behind,qs,qb])) |((first |refine AWP_exit ?_ |refine AWP_skip ?_);simp(disch:=decide) only[qs,qb,if_true,if_false,reduceIte]) |refine AWP_sq rfl (fun K hK=>?_) |refine ct rfl ?_ |((first |refine hK _ _ ?_ |(clear hK;refine hK _ _ ?_) |(clear hK;clear hK;refine hK _ _ ?_));clear hK;(try clear K)))
  (first |refine rg rfl rfl (fun K hK=>?_) |refine rd [.o 0,.o 1,.o 2,.o 3,.o 4,.o 6,.o 7,.o 5,.o 8,.o 9,.o 10] rfl (by decide+kernel) rfl (fun K hK=>?_) |refine rd [.o 0,.o 1,.o 2,.o 3,.o 4,.o 6,.o 5,.o 7,.o 8,.o 9] rfl (by decide+kernel) rfl (fun K hK=>?_));(repeat (first |(refine wo rfl (fun k hk=>?_);simp(disch:=omega) only[go_sem,Nat.reduceBEq,Nat.reduceAdd,e1];apply hk;clear hk k) |refine wkt rfl ?_));(try refine wk0 ?_)
  refine cN rfl rfl rfl rfl (by exact den_spec hx0) ?_;rintro v2 h2 s2 hv2;obtain⟨va2,vl2,vc2,rfl,hv2⟩:=hv2.sl;(repeat (first |(refine wo rfl (fun k hk=>?_);simp(disch:=omega) only[go_sem,Nat.reduceBEq,Nat.reduceAdd];apply hk;clear hk k) |refine wkt rfl ?_));(try refine wk0 ?_)
  (repeat (first |(refine wo rfl (fun k hk=>?_);simp(disch:=omega) only[go_sem,Nat.reduceBEq,Nat.reduceAdd,e1];apply hk;clear hk k) |refine wkt rfl ?_));(try refine wk0 ?_)
  refine cN rfl rfl rfl rfl (by exact NatShl_spec (n:=p) hv2 (by omega)) ?_;rintro v1 h1 _ hv1;obtain⟨v1,v1_l,v1_c,rfl,hv1⟩:=hv1.sl;(repeat (first |(refine wo rfl (fun k hk=>?_);simp(disch:=omega) only[go_sem,Nat.reduceBEq,Nat.reduceAdd];apply hk;clear hk k) |refine wkt rfl ?_));(try refine wk0 ?_)
  refine cN rfl rfl rfl rfl (by exact Make_spec (neg:=n1) (hn.to (h':=h1)) hv1 (by omega) (by omega)) ?_;rintro v3 h3 _ hv3;obtain⟨v3_0,v3_1,v3_2,v3_3,v3_4,v3_5,v3_6,rfl,hv3⟩:=hv3.sa;(repeat (first |(refine wo rfl (fun k hk=>?_);simp(disch:=omega) only[go_sem,Nat.reduceBEq,Nat.reduceAdd];apply hk;clear hk k) |refine wkt rfl ?_));(try refine wk0 ?_)
  (try (simp(disch:=omega) only[go_sem,Nat.reduceBEq,Nat.reduceAdd]));apply hK;clear hK;(try clear K);(try dsimp only[behind,qs])
  refine AWP_ret ?_;simp(disch:=omega) only[go_sem,Nat.reduceBEq,Nat.reduceAdd]
  rw[hs] at hv3;exact hv3
theorem floor_val (x:Rat):sgn (decide (x.num < 0)) (x.num.natAbs / x.den+(if decide (x.num < 0)=true∧x.num.natAbs % x.den≠0 then 1 else 0)) 1=(x.floor:Rat):=by
  rw[sgn_nat,Rat.floor_def]
  have hd:=x.den_nz
  congr 1
  generalize x.num=a at*
  generalize x.den=d at*
  by_cases h:a < 0
  · obtain⟨m,rfl⟩:∃m:Nat,a= -(m:Int):=⟨a.natAbs,by omega⟩
    rw[decide_eq_true h,neg_ediv m hd]
    simp only[Int.natAbs_neg,Int.natAbs_natCast,if_true]
    by_cases hr:m % d=0<;>simp[hr]
  · obtain⟨m,rfl⟩:∃m:Nat,a=(m:Int):=⟨a.natAbs,by omega⟩
    rw[decide_eq_false h]
    simp
theorem Bottom_spec {h0 h:PH} [Le h0 h] {v:Value} {x:Rat} (hx:Qr h0 v x) (bx:sz x≤2^35):
    Spec mach 59 #[v] h (fun v h'=>Qr h' v (x.floor:Rat)) NP:=by
  have hx0:=hx
  obtain⟨na,nl,nc,da,dl,dc,e,rfl,hn,hd,he⟩:=hx.sl
  have b1:=sz_num x;have b2:=sz_den x
  have b3:=bl_div_le x.num.natAbs x.den
  have b4:=bl_add (x.num.natAbs / x.den) 1
  have b5:=bl_one
  have hs:=floor_val x
  obtain⟨neg,en⟩:∃b,decide (x.num < 0)=b:=⟨_,rfl⟩
  rw[en] at hx0 hs ⊢
  refine Spec.enter (args:=[_]) (n:=28) Tryz.func59 rfl (by kernel_rfl) rfl (by simp) [.cell 2 28] rfl (fun C _=>?_)
  repeat (first |(refine wo rfl (fun k hk=>?_);simp(disch:=omega) only[go_sem,Nat.reduceBEq,Nat.reduceAdd];apply hk;clear hk k) |refine wkt rfl ?_ |refine wk0 ?_ |refine rg rfl rfl (fun K hK=>?_) |refine rd [.o 0,.o 1,.o 2,.o 3,.o 4,.o 5,.o 6,.o 7,.o 8,.o 9] rfl (by decide+kernel) rfl (fun K hK=>?_) |refine rd [.o 0,.o 1,.o 2,.o 3,.o 4,.o 5] rfl (by decide+kernel) rfl (fun K hK=>?_) |((first |refine AWP_exit ?_ |refine AWP_skip ?_);simp(disch:=decide) only[qs,qb,if_true,if_false,reduceIte]) |refine AWP_sq rfl (fun K hK=>?_) |refine ct rfl ?_ |((try simp(disch:=omega) only[go_sem,Nat.reduceBEq,Nat.reduceAdd]);(first |apply hK |(clear hK;apply hK) |(clear hK;clear hK;apply hK));clear hK;(try clear K);(try dsimp only[behind,qs,qb])))
  refine cN rfl rfl rfl rfl (by exact den_spec hx0) ?_;rintro d1 g1 _ hd1;obtain⟨d1,d1_l,d1_c,rfl,hd1⟩:=hd1.sl;(repeat (first |(refine wo rfl (fun k hk=>?_);simp(disch:=omega) only[go_sem,Nat.reduceBEq,Nat.reduceAdd];apply hk;clear hk k) |refine wkt rfl ?_));(try refine wk0 ?_)
  refine cN rfl rfl rfl rfl (by exact NatDiv_spec (hn.to (h':=g1)) hd1 x.den_nz (by omega) (by omega)) ?_;rintro v2 h2 s2 ⟨q,r,rfl,hq,hr⟩;(repeat (first |(refine wo rfl (fun k hk=>?_);simp(disch:=omega) only[go_sem,Nat.reduceBEq,Nat.reduceAdd];apply hk;clear hk k) |refine wkt rfl ?_));(try refine wk0 ?_)
  obtain⟨qa,ql,qc,rfl,hq⟩:=hq.sl
  obtain⟨ra,rl,rc,rfl,hr⟩:=hr.sl
  have lr:=hr.len0
  (try (simp(disch:=omega) only[go_sem,Nat.reduceBEq,Nat.reduceAdd]));apply hK;clear hK;(try clear K);(try dsimp only[behind,qs])
  refine AWP_sqs (fun K hK=>?_)
  have rest:∀(v:Value) (q':Nat) (S:AS) (h:PH),Le h0 h→N16 h v q'→bl q'≤2^37→sgn neg q' 1=(x.floor:Rat)→S.le ⟨[(1,.p 0 0),(2,.p 1 0),(3,.v v)],[[.bool neg,.slice na nl nc,.slice da dl dc],[.bool false,.slice none 0 0,.slice none 0 0]]⟩→K S h:=by
    intro v q' S h _ hv bq hs hS
    refine hK _ _ (AWP_le _ hS ?_);clear hK K
    obtain⟨va,vl,vc,rfl,hv⟩:=hv.sl
    (first |refine rg rfl rfl (fun K hK=>?_) |refine rd [.o 0,.o 1,.o 2,.o 3,.o 4,.o 5,.o 6,.o 7,.o 8,.o 9] rfl (by decide+kernel) rfl (fun K hK=>?_) |refine rd [.o 0,.o 1,.o 2,.o 3,.o 4,.o 5] rfl (by decide+kernel) rfl (fun K hK=>?_));(repeat (first |(refine wo rfl (fun k hk=>?_);simp(disch:=omega) only[go_sem,Nat.reduceBEq,Nat.reduceAdd];apply hk;clear hk k) |refine wkt rfl ?_));(try refine wk0 ?_)
    refine cN rfl rfl rfl rfl (by exact NatOf_spec (n:=1) (by decide)) ?_;rintro w1 h3 _ hw1;obtain⟨w1,w1_l,w1_c,rfl,hw1⟩:=hw1.sl;(repeat (first |(refine wo rfl (fun k hk=>?_);simp(disch:=omega) only[go_sem,Nat.reduceBEq,Nat.reduceAdd];apply hk;clear hk k) |refine wkt rfl ?_));(try refine wk0 ?_)
    refine cN rfl rfl rfl rfl (by exact Make_spec (neg:=neg) (hv.to (h':=h3)) hw1 (by omega) (by decide)) ?_;rintro w3 h5 _ hw3;obtain⟨w3_0,w3_1,w3_2,w3_3,w3_4,w3_5,w3_6,rfl,hw3⟩:=hw3.sa;(repeat (first |(refine wo rfl (fun k hk=>?_);simp(disch:=omega) only[go_sem,Nat.reduceBEq,Nat.reduceAdd];apply hk;clear hk k) |refine wkt rfl ?_));(try refine wk0 ?_)
    (try (simp(disch:=omega) only[go_sem,Nat.reduceBEq,Nat.reduceAdd]));apply hK;clear hK;(try clear K);(try dsimp only[behind,qs])
    refine AWP_ret ?_;simp(disch:=omega) only[go_sem,Nat.reduceBEq,Nat.reduceAdd]
    rw[hs] at hw3
    exact hw3
  cases neg with
  | false=>
    rw[if_neg (by simp),Nat.add_zero] at hs
    refine AWP_rs rfl (fun K hK=>?_);(repeat (first |(refine wo rfl (fun k hk=>?_);simp(disch:=omega) only[go_sem,Nat.reduceBEq,Nat.reduceAdd];apply hk;clear hk k) |refine wkt rfl ?_));(try refine wk0 ?_);(first |refine hK _ _ ?_ |(clear hK;refine hK _ _ ?_) |(clear hK;clear hK;refine hK _ _ ?_));clear hK;(try clear K)
    refine AWP_condF rfl ?_
    refine AWP_skip ?_;simp only[qs,qb,if_true,if_false,reduceIte]
    refine rest _ _ _ _ inferInstance hq (by omega) hs ?_
    simp(disch:=omega) only[go_sem,Nat.reduceBEq,Nat.reduceAdd]
  | true=>
    by_cases hr0:x.num.natAbs % x.den=0
    · rw[if_neg (by simp[hr0]),Nat.add_zero] at hs
      refine AWP_rs rfl (fun K hK=>?_);(repeat (first |(refine wo rfl (fun k hk=>?_);simp(disch:=omega) only[go_sem,Nat.reduceBEq,Nat.reduceAdd];apply hk;clear hk k) |refine wkt rfl ?_));(try refine wk0 ?_);(first |refine hK _ _ ?_ |(clear hK;refine hK _ _ ?_) |(clear hK;clear hK;refine hK _ _ ?_));clear hK;(try clear K)
      refine AWP_condF rfl ?_
      refine AWP_skip ?_;simp only[qs,qb,if_true,if_false,reduceIte]
      refine rest _ _ _ _ inferInstance hq (by omega) hs ?_
      simp(disch:=omega) only[go_sem,Nat.reduceBEq,Nat.reduceAdd]
    · rw[if_pos ⟨rfl,hr0⟩] at hs
      have e3:0 < rl:=by omega
      refine AWP_rs rfl (fun K hK=>?_);(repeat (first |(refine wo rfl (fun k hk=>?_);simp(disch:=omega) only[go_sem,Nat.reduceBEq,Nat.reduceAdd];apply hk;clear hk k) |refine wkt rfl ?_));(try refine wk0 ?_);(first |refine hK _ _ ?_ |(clear hK;refine hK _ _ ?_) |(clear hK;clear hK;refine hK _ _ ?_));clear hK;(try clear K)
      refine AWP_condT rfl ?_
      (first |refine rg rfl rfl (fun K hK=>?_) |refine rd [.o 0,.o 1,.o 2,.o 3,.o 4,.o 5,.o 6,.o 7,.o 8,.o 9] rfl (by decide+kernel) rfl (fun K hK=>?_) |refine rd [.o 0,.o 1,.o 2,.o 3,.o 4,.o 5] rfl (by decide+kernel) rfl (fun K hK=>?_));(repeat (first |(refine wo rfl (fun k hk=>?_);simp(disch:=omega) only[go_sem,Nat.reduceBEq,Nat.reduceAdd];apply hk;clear hk k) |refine wkt rfl ?_));(try refine wk0 ?_)
      refine cN rfl rfl rfl rfl (by exact NatOf_spec (n:=1) (by decide)) ?_;rintro w1 h4 _ hw1;obtain⟨w1,w1_l,w1_c,rfl,hw1⟩:=hw1.sl;(repeat (first |(refine wo rfl (fun k hk=>?_);simp(disch:=omega) only[go_sem,Nat.reduceBEq,Nat.reduceAdd];apply hk;clear hk k) |refine wkt rfl ?_));(try refine wk0 ?_)
      refine cN rfl rfl rfl rfl (by exact NatAdd_spec (hq.to (h':=h4)) hw1 (by omega) (by decide)) ?_;rintro w2 h5 _ hw2;obtain⟨w2,w2_l,w2_c,rfl,hw2⟩:=hw2.sl;(repeat (first |(refine wo rfl (fun k hk=>?_);simp(disch:=omega) only[go_sem,Nat.reduceBEq,Nat.reduceAdd];apply hk;clear hk k) |refine wkt rfl ?_));(try refine wk0 ?_)
      (try (simp(disch:=omega) only[go_sem,Nat.reduceBEq,Nat.reduceAdd]));apply hK;clear hK;(try clear K);(try dsimp only[behind,qs])
      refine rest _ _ _ _ inferInstance hw2 (by omega) hs ?_
      simp(disch:=omega) only[go_sem,Nat.reduceBEq,Nat.reduceAdd]
end Go.Q
namespace Go.Q
open Go.Proofs
set_option maxRecDepth 100000
set_option maxHeartbeats 4000000
theorem Top_spec {h0 h:PH} [Le h0 h] {v:Value} {x:Rat} (hx:Qr h0 v x) (bx:sz x≤2^34):
    Spec mach 108 #[v] h (fun v h'=>Qr h' v (x.ceil:Rat)) NP:=by
  obtain⟨_,_,_,_,_,_,_,rfl,hx⟩:=hx.sa
  refine Spec.enter (args:=[_]) (n:=7) Tryz.func108 rfl (by kernel_rfl) rfl (by simp) [.cell 2 28] rfl (fun C _=>?_)
  repeat (first |(refine wo rfl (fun k hk=>?_);simp(disch:=omega) only[go_sem,Nat.reduceBEq,Nat.reduceAdd];apply hk;clear hk k) |refine wkt rfl ?_ |refine wk0 ?_ |refine rg rfl rfl (fun K hK=>?_) |((first |refine AWP_exit ?_ |refine AWP_skip ?_);simp(disch:=decide) only[qs,qb,if_true,if_false,reduceIte]) |refine AWP_sq rfl (fun K hK=>?_) |refine ct rfl ?_ |((try simp(disch:=omega) only[go_sem,Nat.reduceBEq,Nat.reduceAdd]);(first |apply hK |(clear hK;apply hK) |(clear hK;clear hK;apply hK));clear hK;(try clear K);(try dsimp only[behind,qs,qb])))
  refine cN rfl rfl rfl rfl (by exact Opp_spec hx) ?_;rintro v1 h1 _ hv1;obtain⟨v1_0,v1_1,v1_2,v1_3,v1_4,v1_5,v1_6,rfl,hv1⟩:=hv1.sa;(repeat (first |(refine wo rfl (fun k hk=>?_);simp(disch:=omega) only[go_sem,Nat.reduceBEq,Nat.reduceAdd];apply hk;clear hk k) |refine wkt rfl ?_));(try refine wk0 ?_)
  refine cN rfl rfl rfl rfl (by exact Bottom_spec hv1 (by rw[sz_neg];omega)) ?_;rintro v2 h2 _ hv2;obtain⟨v2_0,v2_1,v2_2,v2_3,v2_4,v2_5,v2_6,rfl,hv2⟩:=hv2.sa;(repeat (first |(refine wo rfl (fun k hk=>?_);simp(disch:=omega) only[go_sem,Nat.reduceBEq,Nat.reduceAdd];apply hk;clear hk k) |refine wkt rfl ?_));(try refine wk0 ?_)
  refine cN rfl rfl rfl rfl (by exact Opp_spec hv2) ?_;rintro v3 h3 _ hv3;obtain⟨v3_0,v3_1,v3_2,v3_3,v3_4,v3_5,v3_6,rfl,hv3⟩:=hv3.sa;(repeat (first |(refine wo rfl (fun k hk=>?_);simp(disch:=omega) only[go_sem,Nat.reduceBEq,Nat.reduceAdd];apply hk;clear hk k) |refine wkt rfl ?_));(try refine wk0 ?_)
  (try (simp(disch:=omega) only[go_sem,Nat.reduceBEq,Nat.reduceAdd]));apply hK;clear hK;(try clear K);(try dsimp only[behind,qs])
  refine AWP_ret ?_;simp(disch:=omega) only[go_sem,Nat.reduceBEq,Nat.reduceAdd]
  have: -(((-x).floor:Int):Rat)=((x.ceil:Int):Rat):=by rw[Rat.ceil_eq_neg_floor_neg];simp
  rw[this] at hv3;exact hv3
theorem sz_ceil (x:Rat):sz (x.ceil:Rat)≤sz x:=by
  rw[Rat.ceil_eq_neg_floor_neg,Rat.intCast_neg,sz_neg]
  have:=sz_floor (-x)
  rw[sz_neg] at this;exact this
theorem neg_i {p:Nat} (hp:p≤2^30):IntKind.i64.wrap (0 - (p:Int))= -(p:Int):=by rw[wi64 (by omega) (by omega)];omega
theorem GridDown_spec {h0 h:PH} [Le h0 h] {v:Value} {x:Rat} {p:Nat} (hx:Qr h0 v x) (bx:sz x≤2^30) (hp:p≤2^30):
    Spec mach 60 #[v,.int .i64 p] h (fun v h'=>Qr h' v (gdown x p)) NP:=by
  obtain⟨_,_,_,_,_,_,_,rfl,hx⟩:=hx.sa
  have b1:=sz_scale x p
  have b2:=sz_floor (x*2^p)
  have e1:=neg_i hp
  refine Spec.enter (args:=[_,_]) (n:=12) Tryz.func60 rfl (by kernel_rfl) rfl (by simp) [.cell 4 28] rfl (fun C _=>?_)
  repeat (first |(refine wo rfl (fun k hk=>?_);simp(disch:=omega) only[go_sem,Nat.reduceBEq,Nat.reduceAdd];apply hk;clear hk k) |refine wkt rfl ?_ |refine wk0 ?_ |refine rg rfl rfl (fun K hK=>?_) |((first |refine AWP_exit ?_ |refine AWP_skip ?_);simp(disch:=decide) only[qs,qb,if_true,if_false,reduceIte]) |refine AWP_sq rfl (fun K hK=>?_) |refine ct rfl ?_ |((try simp(disch:=omega) only[go_sem,Nat.reduceBEq,Nat.reduceAdd]);(first |apply hK |(clear hK;apply hK) |(clear hK;clear hK;apply hK));clear hK;(try clear K);(try dsimp only[behind,qs,qb])))
  refine cN rfl rfl rfl rfl (by exact Scaled_spec (p:=p) hx (by omega) (by omega)) ?_;rintro v1 h1 _ hv1;obtain⟨v1_0,v1_1,v1_2,v1_3,v1_4,v1_5,v1_6,rfl,hv1⟩:=hv1.sa;(repeat (first |(refine wo rfl (fun k hk=>?_);simp(disch:=omega) only[go_sem,Nat.reduceBEq,Nat.reduceAdd];apply hk;clear hk k) |refine wkt rfl ?_));(try refine wk0 ?_)
  refine cN rfl rfl rfl rfl (by exact Bottom_spec hv1 (by omega)) ?_;rintro v2 h2 s2 hv2;obtain⟨_,_,_,_,_,_,_,rfl,hv2⟩:=hv2.sa;(repeat (first |(refine wo rfl (fun k hk=>?_);simp(disch:=omega) only[go_sem,Nat.reduceBEq,Nat.reduceAdd];apply hk;clear hk k) |refine wkt rfl ?_));(try refine wk0 ?_)
  (repeat (first |(refine wo rfl (fun k hk=>?_);simp(disch:=omega) only[go_sem,Nat.reduceBEq,Nat.reduceAdd,e1];apply hk;clear hk k) |refine wkt rfl ?_));(try refine wk0 ?_)
  refine cN rfl rfl rfl rfl (by exact Unscaled_spec (p:=p) hv2 (by omega) (by omega) (by omega)) ?_;rintro v3 h3 _ hv3;obtain⟨v3_0,v3_1,v3_2,v3_3,v3_4,v3_5,v3_6,rfl,hv3⟩:=hv3.sa;(repeat (first |(refine wo rfl (fun k hk=>?_);simp(disch:=omega) only[go_sem,Nat.reduceBEq,Nat.reduceAdd];apply hk;clear hk k) |refine wkt rfl ?_));(try refine wk0 ?_)
  (try (simp(disch:=omega) only[go_sem,Nat.reduceBEq,Nat.reduceAdd]));apply hK;clear hK;(try clear K);(try dsimp only[behind,qs])
  refine AWP_ret ?_;simp(disch:=omega) only[go_sem,Nat.reduceBEq,Nat.reduceAdd]
  exact hv3
theorem GridUp_spec {h0 h:PH} [Le h0 h] {v:Value} {x:Rat} {p:Nat} (hx:Qr h0 v x) (bx:sz x≤2^30) (hp:p≤2^30):
    Spec mach 61 #[v,.int .i64 p] h (fun v h'=>Qr h' v (gup x p)) NP:=by
  obtain⟨_,_,_,_,_,_,_,rfl,hx⟩:=hx.sa
  have b1:=sz_scale x p
  have b2:=sz_ceil (x*2^p)
  have e1:=neg_i hp
  refine Spec.enter (args:=[_,_]) (n:=12) Tryz.func61 rfl (by kernel_rfl) rfl (by simp) [.cell 4 28] rfl (fun C _=>?_)
  repeat (first |(refine wo rfl (fun k hk=>?_);simp(disch:=omega) only[go_sem,Nat.reduceBEq,Nat.reduceAdd];apply hk;clear hk k) |refine wkt rfl ?_ |refine wk0 ?_ |refine rg rfl rfl (fun K hK=>?_) |((first |refine AWP_exit ?_ |refine AWP_skip ?_);simp(disch:=decide) only[qs,qb,if_true,if_false,reduceIte]) |refine AWP_sq rfl (fun K hK=>?_) |refine ct rfl ?_ |((try simp(disch:=omega) only[go_sem,Nat.reduceBEq,Nat.reduceAdd]);(first |apply hK |(clear hK;apply hK) |(clear hK;clear hK;apply hK));clear hK;(try clear K);(try dsimp only[behind,qs,qb])))
  refine cN rfl rfl rfl rfl (by exact Scaled_spec (p:=p) hx (by omega) (by omega)) ?_;rintro v1 h1 _ hv1;obtain⟨v1_0,v1_1,v1_2,v1_3,v1_4,v1_5,v1_6,rfl,hv1⟩:=hv1.sa;(repeat (first |(refine wo rfl (fun k hk=>?_);simp(disch:=omega) only[go_sem,Nat.reduceBEq,Nat.reduceAdd];apply hk;clear hk k) |refine wkt rfl ?_));(try refine wk0 ?_)
  refine cN rfl rfl rfl rfl (by exact Top_spec hv1 (by omega)) ?_;rintro v2 h2 s2 hv2;obtain⟨_,_,_,_,_,_,_,rfl,hv2⟩:=hv2.sa;(repeat (first |(refine wo rfl (fun k hk=>?_);simp(disch:=omega) only[go_sem,Nat.reduceBEq,Nat.reduceAdd];apply hk;clear hk k) |refine wkt rfl ?_));(try refine wk0 ?_)
  (repeat (first |(refine wo rfl (fun k hk=>?_);simp(disch:=omega) only[go_sem,Nat.reduceBEq,Nat.reduceAdd,e1];apply hk;clear hk k) |refine wkt rfl ?_));(try refine wk0 ?_)
  refine cN rfl rfl rfl rfl (by exact Unscaled_spec (p:=p) hv2 (by omega) (by omega) (by omega)) ?_;rintro v3 h3 _ hv3;obtain⟨v3_0,v3_1,v3_2,v3_3,v3_4,v3_5,v3_6,rfl,hv3⟩:=hv3.sa;(repeat (first |(refine wo rfl (fun k hk=>?_);simp(disch:=omega) only[go_sem,Nat.reduceBEq,Nat.reduceAdd];apply hk;clear hk k) |refine wkt rfl ?_));(try refine wk0 ?_)
  (try (simp(disch:=omega) only[go_sem,Nat.reduceBEq,Nat.reduceAdd]));apply hK;clear hK;(try clear K);(try dsimp only[behind,qs])
  refine AWP_ret ?_;simp(disch:=omega) only[go_sem,Nat.reduceBEq,Nat.reduceAdd]
  exact hv3
theorem sgn_quo (x y:Rat):sgn (!(decide (x.num < 0) == decide (y.num < 0))) (x.num.natAbs*y.den) (x.den*y.num.natAbs)=x / y:=by
  by_cases hy:y=0
  · subst hy
    simp[sgn,Rat.div_def]
  · have hn0:y.num≠0:=fun e=>hy (Rat.num_eq_zero.1 e)
    have hp:=y.den_nz
    have e1:decide ((y⁻¹).num < 0)=decide (y.num < 0):=by
      rw[Rat.num_inv]
      rcases Int.lt_trichotomy y.num 0 with h |h |h
      · rw[Int.sign_eq_neg_one_of_neg h,decide_eq_decide];omega
      · exact(hn0 h).elim
      · rw[Int.sign_eq_one_of_pos h,decide_eq_decide];omega
    have e2:(y⁻¹).num.natAbs=y.den:=by rw[Rat.num_inv,Int.natAbs_mul,Int.natAbs_sign_of_ne_zero hn0,Nat.one_mul,Int.natAbs_natCast]
    have e3:(y⁻¹).den=y.num.natAbs:=by rw[Rat.den_inv,if_neg hn0]
    have:=sgn_mul x y⁻¹
    rw[e1,e2,e3] at this
    rw[this,Rat.div_def]
theorem QDiv_spec {h0 h:PH} [Le h0 h] {v w:Value} {x y:Rat} (hx:Qr h0 v x) (hy:Qr h0 w y) (bx:sz x≤2^35) (by_:sz y≤2^35):
    Spec mach 54 #[v,w] h (fun v h'=>Qr h' v (x / y)) NP:=by
  have hx0:=hx
  have hy0:=hy
  obtain⟨na,nl,nc,da,dl,dc,e,rfl,hn,hd,he⟩:=hx.sl
  obtain⟨na',nl',nc',da',dl',dc',e',rfl,hn',hd',he'⟩:=hy.sl
  have b1:=sz_num x;have b2:=sz_den x;have b3:=sz_num y;have b4:=sz_den y
  have b5:=bl_mul x.num.natAbs y.den
  have b6:=bl_mul x.den y.num.natAbs
  refine Spec.enter (args:=[_,_]) (n:=21) Tryz.func54 rfl (by kernel_rfl) rfl (by simp) [.cell 4 28] rfl (fun C _=>?_)
  repeat (first |(refine wo rfl (fun k hk=>?_);simp(disch:=omega) only[go_sem,Nat.reduceBEq,Nat.reduceAdd];apply hk;clear hk k) |refine wkt rfl ?_ |refine wk0 ?_ |refine rg rfl rfl (fun K hK=>?_) |refine rd [.o 0,.o 1,.o 2,.o 3,.o 4,.o 5,.o 6,.o 7,.o 10,.o 12,.o 13,.o 8,.o 9,.o 11,.o 14,.o 15,.o 16] rfl (by decide+kernel) rfl (fun K hK=>?_) |((first |refine AWP_exit ?_ |refine AWP_skip ?_);simp(disch:=decide) only[qs,qb,if_true,if_false,reduceIte]) |refine AWP_sq rfl (fun K hK=>?_) |refine ct rfl ?_ |((try simp(disch:=omega) only[go_sem,Nat.reduceBEq,Nat.reduceAdd]);(first |apply hK |(clear hK;apply hK) |(clear hK;clear hK;apply hK));clear hK;(try clear K);(try dsimp only[behind,qs,qb])))
  refine cN rfl rfl rfl rfl (by exact den_spec hy0) ?_;rintro d1 g1 _ hd1;obtain⟨d1,d1_l,d1_c,rfl,hd1⟩:=hd1.sl;(repeat (first |(refine wo rfl (fun k hk=>?_);simp(disch:=omega) only[go_sem,Nat.reduceBEq,Nat.reduceAdd];apply hk;clear hk k) |refine wkt rfl ?_));(try refine wk0 ?_)
  refine cN rfl rfl rfl rfl (by exact NatMul_spec (hn.to (h':=g1)) hd1 (by omega) (by omega)) ?_;rintro v1 h1 _ hv1;obtain⟨v1,v1_l,v1_c,rfl,hv1⟩:=hv1.sl;(repeat (first |(refine wo rfl (fun k hk=>?_);simp(disch:=omega) only[go_sem,Nat.reduceBEq,Nat.reduceAdd];apply hk;clear hk k) |refine wkt rfl ?_));(try refine wk0 ?_)
  refine cN rfl rfl rfl rfl (by exact den_spec hx0) ?_;rintro d2 g2 _ hd2;obtain⟨d2,d2_l,d2_c,rfl,hd2⟩:=hd2.sl;(repeat (first |(refine wo rfl (fun k hk=>?_);simp(disch:=omega) only[go_sem,Nat.reduceBEq,Nat.reduceAdd];apply hk;clear hk k) |refine wkt rfl ?_));(try refine wk0 ?_)
  refine cN rfl rfl rfl rfl (by exact NatMul_spec hd2 (hn'.to (h':=g2)) (by omega) (by omega)) ?_;rintro v2 h2 _ hv2;obtain⟨v2,v2_l,v2_c,rfl,hv2⟩:=hv2.sl;(repeat (first |(refine wo rfl (fun k hk=>?_);simp(disch:=omega) only[go_sem,Nat.reduceBEq,Nat.reduceAdd];apply hk;clear hk k) |refine wkt rfl ?_));(try refine wk0 ?_)
  refine cN rfl rfl rfl rfl (by exact Make_spec (hv1.to (h':=h2)) hv2 (by omega) (by omega)) ?_;rintro v3 h3 _ hv3;obtain⟨v3_0,v3_1,v3_2,v3_3,v3_4,v3_5,v3_6,rfl,hv3⟩:=hv3.sa;(repeat (first |(refine wo rfl (fun k hk=>?_);simp(disch:=omega) only[go_sem,Nat.reduceBEq,Nat.reduceAdd];apply hk;clear hk k) |refine wkt rfl ?_));(try refine wk0 ?_)
  (try (simp(disch:=omega) only[go_sem,Nat.reduceBEq,Nat.reduceAdd]));apply hK;clear hK;(try clear K);(try dsimp only[behind,qs])
  refine AWP_ret ?_;simp(disch:=omega) only[go_sem,Nat.reduceBEq,Nat.reduceAdd]
  rw[sgn_quo] at hv3
  exact hv3
theorem Canonical_cn {h0 h:PH} [Le h0 h] {v:Value} {x:Rat} (hx:Cn h0 v x) (bx:sz x≤2^30):Spec mach 44 #[v] h (fun v _=>v=.bool true) NP:=by
  have hrw:=hx.rw bx
  have hq:=qof_cn x
  obtain⟨sn,sd,rfl,h2,h3⟩:=hx
  obtain⟨a,c,xs,rfl,ha,hxs,hxm⟩:=h2.out
  obtain⟨a',c',ys,rfl,ha',hys,hym⟩:=h3.out
  have sx:=ha.small
  have sy:=ha'.small
  obtain⟨neg,en⟩:∃b,decide (x.num < 0)=b:=⟨_,rfl⟩
  rw[en] at hrw hq ⊢
  refine Spec.enter (args:=[_]) (n:=68) Tryz.func44 rfl (by kernel_rfl) rfl (by simp) [.tmp 2] rfl (fun C _=>?_)
  repeat (first |(refine wo rfl (fun k hk=>?_);simp(disch:=omega) only[go_sem,Nat.reduceBEq,Nat.reduceAdd];apply hk;clear hk k) |refine wkt rfl ?_ |refine wk0 ?_ |refine rg rfl rfl (fun K hK=>?_) |refine rd [.o 0,.o 1,.o 2,.o 3,.o 4,.o 5,.o 6,.o 7,.o 8,.o 9,.o 10] rfl (by decide+kernel) rfl (fun K hK=>?_) |((first |refine AWP_exit ?_ |refine AWP_skip ?_);simp(disch:=decide) only[qs,qb,if_true,if_false,reduceIte]) |refine AWP_sq rfl (fun K hK=>?_) |refine ct rfl ?_ |((try simp(disch:=omega) only[go_sem,Nat.reduceBEq,Nat.reduceAdd]);(first |apply hK |(clear hK;apply hK) |(clear hK;clear hK;apply hK));clear hK;(try clear K);(try dsimp only[behind,qs,qb])))
  refine cN rfl rfl rfl rfl (by exact QOf_spec hrw) ?_;rintro v1 h1 _ hv1;obtain⟨v1_0,v1_1,v1_2,v1_3,v1_4,v1_5,v1_6,rfl,hv1⟩:=hv1.sa;(repeat (first |(refine wo rfl (fun k hk=>?_);simp(disch:=omega) only[go_sem,Nat.reduceBEq,Nat.reduceAdd];apply hk;clear hk k) |refine wkt rfl ?_));(try refine wk0 ?_)
  rw[hq] at hv1
  refine cN rfl rfl rfl rfl (by exact QRat_spec hv1 (by omega)) ?_;rintro v2 h2' s2 hv2;(repeat (first |(refine wo rfl (fun k hk=>?_);simp(disch:=omega) only[go_sem,Nat.reduceBEq,Nat.reduceAdd];apply hk;clear hk k) |refine wkt rfl ?_));(try refine wk0 ?_)
  obtain⟨tn,td,rfl,t2,t3⟩:=hv2
  rw[en]
  obtain⟨ta,tc,ts,rfl,hta,hts,_⟩:=t2.out
  obtain rfl:xs=ts:=hxs.symm.trans hts
  obtain⟨ta',tc',ts',rfl,hta',hts',_⟩:=t3.out
  obtain rfl:ys=ts':=hys.symm.trans hts'
  (repeat (first |(refine wo rfl (fun k hk=>?_);simp(disch:=omega) only[go_sem,Nat.reduceBEq,Nat.reduceAdd];apply hk;clear hk k) |refine wkt rfl ?_));(try refine wk0 ?_)
  have e0:(neg == neg)=true:=by simp
  repeat (first |(refine wo rfl (fun k hk=>?_);simp(disch:=omega) only[go_sem,Nat.reduceBEq,Nat.reduceAdd,e0];apply hk;clear hk k) |refine wkt rfl ?_ |refine wk0 ?_ |refine rg rfl rfl (fun K hK=>?_) |refine rd [.o 0,.o 1,.o 2,.o 3,.o 4,.o 5,.o 6,.o 7,.o 8,.o 9,.o 10] rfl (by decide+kernel) rfl (fun K hK=>?_) |((first |refine AWP_exit ?_ |refine AWP_skip ?_);simp(disch:=decide) only[qs,qb,if_true,if_false,reduceIte]) |refine AWP_sq rfl (fun K hK=>?_) |refine ct rfl ?_ |((try simp(disch:=omega) only[go_sem,Nat.reduceBEq,Nat.reduceAdd]);(first |apply hK |(clear hK;apply hK) |(clear hK;clear hK;apply hK));clear hK;(try clear K);(try dsimp only[behind,qs,qb])))
  refine AWP_loop (fun i:Nat=>⟨[(1,.p 0 0),(3,.p 1 0),(34,.v (.int .i64 xs.length)),(35,.v (.int .i64 i))],[[.bool neg,.slice a xs.length c,.slice a' ys.length c'],[.bool neg,.slice ta xs.length tc,.slice ta' ys.length tc']]⟩)
    (fun i h'=>Le h2' h'∧Le h0 h'∧i≤xs.length) (fun i=>xs.length - i) 0 ?_ ⟨inferInstance,inferInstance,by omega⟩ ?_
  · simp(disch:=omega) only[go_sem,Nat.reduceBEq,Nat.reduceAdd]
  rintro i g1 ⟨hle,hle0,hi⟩
  by_cases hil:i < xs.length
  · obtain⟨ad,rfl,hat⟩:=ha.rd g1 (i:=i) (by omega)
    obtain⟨ad',rfl,hat'⟩:=hta.rd g1 (i:=i) (by omega)
    repeat (first |(refine wo rfl (fun k hk=>?_);simp(disch:=omega) only[go_sem,Nat.reduceBEq,Nat.reduceAdd,hat,hat'];apply hk;clear hk k) |refine wkt rfl ?_ |refine wk0 ?_ |refine rg rfl rfl (fun K hK=>?_) |refine rd [.o 0,.o 1,.o 2,.o 3,.o 4,.o 5,.o 6,.o 7,.o 8,.o 9,.o 10] rfl (by decide+kernel) rfl (fun K hK=>?_) |((first |refine AWP_exit ?_ |refine AWP_skip ?_);simp(disch:=decide) only[qs,qb,if_true,if_false,reduceIte]) |refine AWP_sq rfl (fun K hK=>?_) |refine ct rfl ?_ |((try simp(disch:=omega) only[go_sem,Nat.reduceBEq,Nat.reduceAdd]);(first |apply hK |(clear hK;apply hK) |(clear hK;clear hK;apply hK));clear hK;(try clear K);(try dsimp only[behind,qs,qb])))
    refine⟨i+1,?_,⟨hle,hle0,by omega⟩,by omega⟩
    simp(disch:=omega) only[go_sem,Nat.reduceBEq,Nat.reduceAdd]
  · repeat (first |(refine wo rfl (fun k hk=>?_);simp(disch:=omega) only[go_sem,Nat.reduceBEq,Nat.reduceAdd];apply hk;clear hk k) |refine wkt rfl ?_ |refine wk0 ?_ |refine rg rfl rfl (fun K hK=>?_) |refine rd [.o 0,.o 1,.o 2,.o 3,.o 4,.o 5,.o 6,.o 7,.o 8,.o 9,.o 10] rfl (by decide+kernel) rfl (fun K hK=>?_) |((first |refine AWP_exit ?_ |refine AWP_skip ?_);simp(disch:=decide) only[qs,qb,if_true,if_false,reduceIte]) |refine AWP_sq rfl (fun K hK=>?_) |refine ct rfl ?_ |((try simp(disch:=omega) only[go_sem,Nat.reduceBEq,Nat.reduceAdd]);(first |apply hK |(clear hK;apply hK) |(clear hK;clear hK;apply hK));clear hK;(try clear K);(try dsimp only[behind,qs,qb])))
    refine AWP_loop (fun i:Nat=>⟨[(1,.p 0 0),(3,.p 1 0),(52,.v (.int .i64 ys.length)),(53,.v (.int .i64 i))],[[.bool neg,.slice a xs.length c,.slice a' ys.length c'],[.bool neg,.slice ta xs.length tc,.slice ta' ys.length tc']]⟩)
      (fun i h'=>Le h2' h'∧Le h0 h'∧i≤ys.length) (fun i=>ys.length - i) 0 ?_ ⟨hle,hle0,by omega⟩ ?_
    · simp(disch:=omega) only[go_sem,Nat.reduceBEq,Nat.reduceAdd]
    rintro i g2 ⟨hle,hle0,hi⟩
    by_cases hil:i < ys.length
    · obtain⟨ad,rfl,hat⟩:=ha'.rd g2 (i:=i) (by omega)
      obtain⟨ad',rfl,hat'⟩:=hta'.rd g2 (i:=i) (by omega)
      repeat (first |(refine wo rfl (fun k hk=>?_);simp(disch:=omega) only[go_sem,Nat.reduceBEq,Nat.reduceAdd,hat,hat'];apply hk;clear hk k) |refine wkt rfl ?_ |refine wk0 ?_ |refine rg rfl rfl (fun K hK=>?_) |refine rd [.o 0,.o 1,.o 2,.o 3,.o 4,.o 5,.o 6,.o 7,.o 8,.o 9,.o 10] rfl (by decide+kernel) rfl (fun K hK=>?_) |((first |refine AWP_exit ?_ |refine AWP_skip ?_);simp(disch:=decide) only[qs,qb,if_true,if_false,reduceIte]) |refine AWP_sq rfl (fun K hK=>?_) |refine ct rfl ?_ |((try simp(disch:=omega) only[go_sem,Nat.reduceBEq,Nat.reduceAdd]);(first |apply hK |(clear hK;apply hK) |(clear hK;clear hK;apply hK));clear hK;(try clear K);(try dsimp only[behind,qs,qb])))
      refine⟨i+1,?_,⟨hle,hle0,by omega⟩,by omega⟩
      simp(disch:=omega) only[go_sem,Nat.reduceBEq,Nat.reduceAdd]
    · repeat (first |(refine wo rfl (fun k hk=>?_);simp(disch:=omega) only[go_sem,Nat.reduceBEq,Nat.reduceAdd];apply hk;clear hk k) |refine wkt rfl ?_ |refine wk0 ?_ |refine rg rfl rfl (fun K hK=>?_) |refine rd [.o 0,.o 1,.o 2,.o 3,.o 4,.o 5,.o 6,.o 7,.o 8,.o 9,.o 10] rfl (by decide+kernel) rfl (fun K hK=>?_) |((first |refine AWP_exit ?_ |refine AWP_skip ?_);simp(disch:=decide) only[qs,qb,if_true,if_false,reduceIte]) |refine AWP_sq rfl (fun K hK=>?_) |refine ct rfl ?_ |((try simp(disch:=omega) only[go_sem,Nat.reduceBEq,Nat.reduceAdd]);(first |apply hK |(clear hK;apply hK) |(clear hK;clear hK;apply hK));clear hK;(try clear K);(try dsimp only[behind,qs,qb])))
      refine AWP_ret ?_;simp(disch:=omega) only[go_sem,Nat.reduceBEq,Nat.reduceAdd]
end Go.Q
namespace Go.Q
open Go.Proofs
set_option maxRecDepth 100000
theorem emod_two (s:Int):((s % 18446744073709551616).toNat % 2:Nat)=(s % 2).toNat:=by omega
theorem and_one {k:Nat}:andI .i64 (k:Int) 1=((k % 2:Nat):Int):=by
  unfold andI
  rw[BitVec.toNat_and]
  have e1:(BitVec.ofInt IntKind.i64.bits (k:Int)).toNat=((k:Int) % 18446744073709551616).toNat:=by rw[BitVec.toNat_ofInt];rfl
  have e2:(BitVec.ofInt IntKind.i64.bits 1).toNat=2^1 - 1:=by decide
  rw[e1,e2,Nat.and_two_pow_sub_one_eq_mod,show(2:Nat)^1=2 from rfl,emod_two,IntKind.wrap_i64]
  omega
theorem shr_one {k:Nat}:(k:Int).fdiv (2^min (Int.toNat 1) 64)=((k / 2:Nat):Int):=by
  rw[show(2:Int)^min (Int.toNat 1) 64=2 from rfl,Int.fdiv_eq_ediv_of_nonneg _ (by decide)];omega
theorem npow_odd {a o k p:Nat} (hm:k % 2=1) (h:o*a^k=p):o*a*(a*a)^(k / 2)=p:=by
  obtain⟨j,rfl⟩:∃j,k=2*j+1:=⟨k / 2,by omega⟩
  rw[show(2*j+1) / 2=j by omega,←h,Nat.pow_succ,Nat.pow_mul,Nat.pow_two,Nat.mul_assoc,Nat.mul_comm ((a*a)^j) a]
theorem npow_even {a o k p:Nat} (hm:k % 2=0) (h:o*a^k=p):o*(a*a)^(k / 2)=p:=by
  obtain⟨j,rfl⟩:∃j,k=2*j:=⟨k / 2,by omega⟩
  rw[show(2*j) / 2=j by omega,←h,Nat.pow_mul,Nat.pow_two]
theorem npow_bits {a o k B:Nat} (h:bl o+bl a*k≤B) (hk:k≠0):bl a+bl o≤B∧bl (o*a)+bl (a*a)*(k / 2)≤B+(bl a - bl a*(k % 2))∧bl o+bl (a*a)*(k / 2)≤B:=by
  have h1:=bl_mul o a
  have h2:=bl_mul a a
  have h3:bl (a*a)*(k / 2)≤(bl a+bl a)*(k / 2):=Nat.mul_le_mul_right _ h2
  have h4:bl a*k=bl a*(2*(k / 2))+bl a*(k % 2):=by rw[←Nat.mul_add];congr 1;omega
  have h5:(bl a+bl a)*(k / 2)=bl a*(2*(k / 2)):=by rw[←Nat.two_mul,Nat.mul_comm 2,Nat.mul_assoc]
  have h6:bl a≤bl a*k:=Nat.le_mul_of_pos_right _ (by omega)
  rcases(show k % 2=0∨k % 2=1 by omega) with e |e<;>rw[e] at h4 ⊢<;>omega
theorem NPow_spec {h0 h:PH} [Le h0 h] {v:Value} {m n:Nat} (hv:N32 h0 v m) (hn:n≤2^20) (bm:bl m*n≤2^36):Spec mach 198 #[v,.int .i64 n] h (fun v h'=>N32 h' v (m^n)) NP:=by
  refine Spec.enter (args:=[_,_]) (n:=23) Tryz.func198 rfl (by kernel_rfl) rfl (by simp) [.tmp 4] rfl (fun C _=>?_)
  repeat (first |(refine wo rfl (fun k hk=>?_);simp(disch:=omega) only[go_sem,Nat.reduceBEq,Nat.reduceAdd];apply hk;clear hk k) |refine wkt rfl ?_ |refine wk0 ?_ |refine rg rfl rfl (fun K hK=>?_) |((first |refine AWP_exit ?_ |refine AWP_skip ?_);simp(disch:=decide) only[qs,qb,if_true,if_false,reduceIte]) |refine AWP_sq rfl (fun K hK=>?_) |refine ct rfl ?_ |((try simp(disch:=omega) only[go_sem,Nat.reduceBEq,Nat.reduceAdd]);(first |apply hK |(clear hK;apply hK) |(clear hK;clear hK;apply hK));clear hK;(try clear K);(try dsimp only[behind,qs,qb])))
  refine cN rfl rfl rfl rfl (by exact Small_spec (n:=1) (by decide)) ?_;rintro o1 h1 s1 ho1
  repeat (first |(refine wo rfl (fun k hk=>?_);simp(disch:=omega) only[go_sem,Nat.reduceBEq,Nat.reduceAdd];apply hk;clear hk k) |refine wkt rfl ?_ |refine wk0 ?_ |refine rg rfl rfl (fun K hK=>?_) |((first |refine AWP_exit ?_ |refine AWP_skip ?_);simp(disch:=decide) only[qs,qb,if_true,if_false,reduceIte]) |refine AWP_sq rfl (fun K hK=>?_) |refine ct rfl ?_ |((try simp(disch:=omega) only[go_sem,Nat.reduceBEq,Nat.reduceAdd]);(first |apply hK |(clear hK;apply hK) |(clear hK;clear hK;apply hK));clear hK;(try clear K);(try dsimp only[behind,qs,qb])))
  refine AWP_loop (fun x:Value×Value×Nat×Nat×Nat=>⟨[(0,.v x.1),(1,.v (.int .i64 (x.2.2.2.2:Nat))),(5,.v x.2.1)],[]⟩)
    (fun x h'=>N32 h' x.1 x.2.2.1∧N32 h' x.2.1 x.2.2.2.1∧x.2.2.2.2≤2^20∧bl x.2.2.2.1+bl x.2.2.1*x.2.2.2.2≤1+bl m*n∧x.2.2.2.1*x.2.2.1^x.2.2.2.2=m^n)
    (fun x=>x.2.2.2.2) (v,o1,m,1,n) ?_ ⟨hv.to,ho1,hn,by rw[bl_one];exact Nat.le_refl _,by rw[Nat.one_mul]⟩ ?_
  · simp(disch:=omega) only[go_sem,Nat.reduceBEq,Nat.reduceAdd]
  · rintro⟨va,vo,a,o,k⟩ h2 ⟨ha,ho,hk,hb,he⟩
    dsimp only at ha ho hk hb he ⊢
    by_cases hk0:k=0
    · repeat (first |(refine wo rfl (fun k hk=>?_);simp(disch:=omega) only[go_sem,Nat.reduceBEq,Nat.reduceAdd];apply hk;clear hk k) |refine wkt rfl ?_ |refine wk0 ?_ |refine rg rfl rfl (fun K hK=>?_) |((first |refine AWP_exit ?_ |refine AWP_skip ?_);simp(disch:=decide) only[qs,qb,if_true,if_false,reduceIte]) |refine AWP_sq rfl (fun K hK=>?_) |refine ct rfl ?_ |((try simp(disch:=omega) only[go_sem,Nat.reduceBEq,Nat.reduceAdd]);(first |apply hK |(clear hK;apply hK) |(clear hK;clear hK;apply hK));clear hK;(try clear K);(try dsimp only[behind,qs,qb])))
      refine AWP_ret ?_;simp(disch:=omega) only[go_sem,Nat.reduceBEq,Nat.reduceAdd]
      rw[hk0,Nat.pow_zero,Nat.mul_one] at he
      rwa[←he]
    · obtain⟨b1,b2,b3⟩:=npow_bits hb hk0
      have hk2:k / 2≤2^20:=by omega
      have hlt:k / 2 < k:=by omega
      by_cases hm:k % 2=1
      · by_cases hk1:k=1
        · subst hk1
          repeat (first |(refine wo rfl (fun k hk=>?_);simp(disch:=omega) only[go_sem,Nat.reduceBEq,Nat.reduceAdd,and_one,hm];apply hk;clear hk k) |refine wkt rfl ?_ |refine wk0 ?_ |refine rg rfl rfl (fun K hK=>?_) |((first |refine AWP_exit ?_ |refine AWP_skip ?_);simp(disch:=decide) only[qs,qb,if_true,if_false,reduceIte]) |refine AWP_sq rfl (fun K hK=>?_) |refine ct rfl ?_ |((try simp(disch:=omega) only[go_sem,Nat.reduceBEq,Nat.reduceAdd]);(first |apply hK |(clear hK;apply hK) |(clear hK;clear hK;apply hK));clear hK;(try clear K);(try dsimp only[behind,qs,qb])))
          refine cN rfl rfl rfl rfl (by exact Mul_spec ho ha (by omega) (by omega)) ?_;rintro v3 h3 s3 q3
          repeat (first |(refine wo rfl (fun k hk=>?_);simp(disch:=omega) only[go_sem,Nat.reduceBEq,Nat.reduceAdd,and_one,shr_one];apply hk;clear hk k) |refine wkt rfl ?_ |refine wk0 ?_ |refine rg rfl rfl (fun K hK=>?_) |((first |refine AWP_exit ?_ |refine AWP_skip ?_);simp(disch:=decide) only[qs,qb,if_true,if_false,reduceIte]) |refine AWP_sq rfl (fun K hK=>?_) |refine ct rfl ?_ |((try simp(disch:=omega) only[go_sem,Nat.reduceBEq,Nat.reduceAdd]);(first |apply hK |(clear hK;apply hK) |(clear hK;clear hK;apply hK));clear hK;(try clear K);(try dsimp only[behind,qs,qb])))
          refine⟨(va,v3,a,o*a,0),?_,⟨ha.to,q3,by omega,?_,?_⟩,(show 0 < 1 by decide)⟩
          · simp(disch:=omega) only[go_sem,Nat.reduceBEq,Nat.reduceAdd]
            rfl
          · show bl (o*a)+bl a*0≤1+bl m*n
            rw[Nat.mul_zero]
            have:=bl_mul o a
            omega
          · show o*a*a^0=m^n
            rw[Nat.pow_zero,Nat.mul_one];rw[Nat.pow_one] at he;exact he
        · have h1k:1 < k:=by omega
          repeat (first |(refine wo rfl (fun k hk=>?_);simp(disch:=omega) only[go_sem,Nat.reduceBEq,Nat.reduceAdd,and_one,hm];apply hk;clear hk k) |refine wkt rfl ?_ |refine wk0 ?_ |refine rg rfl rfl (fun K hK=>?_) |((first |refine AWP_exit ?_ |refine AWP_skip ?_);simp(disch:=decide) only[qs,qb,if_true,if_false,reduceIte]) |refine AWP_sq rfl (fun K hK=>?_) |refine ct rfl ?_ |((try simp(disch:=omega) only[go_sem,Nat.reduceBEq,Nat.reduceAdd]);(first |apply hK |(clear hK;apply hK) |(clear hK;clear hK;apply hK));clear hK;(try clear K);(try dsimp only[behind,qs,qb])))
          refine cN rfl rfl rfl rfl (by exact Mul_spec ho ha (by omega) (by omega)) ?_;rintro v3 h3 s3 q3
          repeat (first |(refine wo rfl (fun k hk=>?_);simp(disch:=omega) only[go_sem,Nat.reduceBEq,Nat.reduceAdd];apply hk;clear hk k) |refine wkt rfl ?_ |refine wk0 ?_ |refine rg rfl rfl (fun K hK=>?_) |((first |refine AWP_exit ?_ |refine AWP_skip ?_);simp(disch:=decide) only[qs,qb,if_true,if_false,reduceIte]) |refine AWP_sq rfl (fun K hK=>?_) |refine ct rfl ?_ |((try simp(disch:=omega) only[go_sem,Nat.reduceBEq,Nat.reduceAdd]);(first |apply hK |(clear hK;apply hK) |(clear hK;clear hK;apply hK));clear hK;(try clear K);(try dsimp only[behind,qs,qb])))
          refine cN rfl rfl rfl rfl (by exact Mul_spec (ha.to (h':=h3)) (ha.to (h':=h3)) (by omega) (by omega)) ?_;rintro v4 h4 s4 q4
          repeat (first |(refine wo rfl (fun k hk=>?_);simp(disch:=omega) only[go_sem,Nat.reduceBEq,Nat.reduceAdd,shr_one];apply hk;clear hk k) |refine wkt rfl ?_ |refine wk0 ?_ |refine rg rfl rfl (fun K hK=>?_) |((first |refine AWP_exit ?_ |refine AWP_skip ?_);simp(disch:=decide) only[qs,qb,if_true,if_false,reduceIte]) |refine AWP_sq rfl (fun K hK=>?_) |refine ct rfl ?_ |((try simp(disch:=omega) only[go_sem,Nat.reduceBEq,Nat.reduceAdd]);(first |apply hK |(clear hK;apply hK) |(clear hK;clear hK;apply hK));clear hK;(try clear K);(try dsimp only[behind,qs,qb])))
          refine⟨(v4,v3,a*a,o*a,k / 2),?_,⟨q4,q3.to,hk2,?_,npow_odd hm he⟩,hlt⟩
          · simp(disch:=omega) only[go_sem,Nat.reduceBEq,Nat.reduceAdd]
          · show bl (o*a)+bl (a*a)*(k / 2)≤1+bl m*n
            rw[hm,Nat.mul_one] at b2;omega
      · have hm:k % 2=0:=by omega
        have h1k:1 < k:=by omega
        repeat (first |(refine wo rfl (fun k hk=>?_);simp(disch:=omega) only[go_sem,Nat.reduceBEq,Nat.reduceAdd,and_one,hm];apply hk;clear hk k) |refine wkt rfl ?_ |refine wk0 ?_ |refine rg rfl rfl (fun K hK=>?_) |((first |refine AWP_exit ?_ |refine AWP_skip ?_);simp(disch:=decide) only[qs,qb,if_true,if_false,reduceIte]) |refine AWP_sq rfl (fun K hK=>?_) |refine ct rfl ?_ |((try simp(disch:=omega) only[go_sem,Nat.reduceBEq,Nat.reduceAdd]);(first |apply hK |(clear hK;apply hK) |(clear hK;clear hK;apply hK));clear hK;(try clear K);(try dsimp only[behind,qs,qb])))
        refine cN rfl rfl rfl rfl (by exact Mul_spec ha ha (by omega) (by omega)) ?_;rintro v4 h4 s4 q4
        repeat (first |(refine wo rfl (fun k hk=>?_);simp(disch:=omega) only[go_sem,Nat.reduceBEq,Nat.reduceAdd,shr_one];apply hk;clear hk k) |refine wkt rfl ?_ |refine wk0 ?_ |refine rg rfl rfl (fun K hK=>?_) |((first |refine AWP_exit ?_ |refine AWP_skip ?_);simp(disch:=decide) only[qs,qb,if_true,if_false,reduceIte]) |refine AWP_sq rfl (fun K hK=>?_) |refine ct rfl ?_ |((try simp(disch:=omega) only[go_sem,Nat.reduceBEq,Nat.reduceAdd]);(first |apply hK |(clear hK;apply hK) |(clear hK;clear hK;apply hK));clear hK;(try clear K);(try dsimp only[behind,qs,qb])))
        refine⟨(v4,vo,a*a,o,k / 2),?_,⟨q4,ho.to,hk2,b3,npow_even hm he⟩,hlt⟩
        simp(disch:=omega) only[go_sem,Nat.reduceBEq,Nat.reduceAdd]
end Go.Q
namespace Go.Q
theorem bl_pow (m n:Nat):bl (m^n)≤n*bl m+1:=by
  induction n with
  |zero=>rw[Nat.pow_zero,bl_one];omega
  | succ n ih=>
    rw[Nat.pow_succ]
    have:=bl_mul (m^n) m
    have e:(n+1)*bl m=n*bl m+bl m:=Nat.succ_mul _ _
    omega
def irtTo (n a:Nat):Nat→Nat
  |0=>0
  |k+1=>if (k+1)^n≤a then k+1 else irtTo n a k
def irt (n a:Nat):Nat:=irtTo n a a
theorem irtTo_le (n a k:Nat) (hn:n≠0):irtTo n a k^n≤a:=by
  induction k with
  |zero=>show 0^n≤a;rw[Nat.zero_pow (Nat.pos_of_ne_zero hn)];exact Nat.zero_le _
  | succ k ih=>
    show(if _ then _ else _)^n≤a
    split
    · assumption
    · exact ih
theorem irtTo_lt (n a k:Nat) {j:Nat} (h:j^n≤a) (hj:j≤k):j≤irtTo n a k:=by
  induction k with
  |zero=>omega
  | succ k ih=>
    show j≤if _ then _ else _
    split
    · exact hj
    · rename_i h1
      have:j≠k+1:=fun e=>h1 (e▸h)
      exact ih (by omega)
theorem irt_le {n a:Nat} (hn:n≠0):irt n a^n≤a:=irtTo_le n a a hn
theorem irt_max {n a j:Nat} (hn:n≠0) (h:j^n≤a):j≤irt n a:=by
  refine irtTo_lt n a a h (Nat.le_trans ?_ h)
  cases j with
  |zero=>exact Nat.zero_le _
  |succ j=>exact Nat.le_self_pow hn _
theorem irt_eq {n a x:Nat} (hn:n≠0) (h1:x^n≤a) (h2:irt n a≤x):x=irt n a:=Nat.le_antisymm (irt_max hn h1) h2
theorem irt_zero {n:Nat} (hn:n≠0):irt n 0=0:=by
  have:=irt_le (n:=n) (a:=0) hn
  have h1:irt n 0≤irt n 0^n:=Nat.le_self_pow hn _
  omega
theorem irt_lt_pow {n a k:Nat} (hn:n≠0) (h:a < 2^(n*k)):irt n a < 2^k:=by
  refine Decidable.byContradiction fun c=>?_
  have h1:2^k≤irt n a:=by omega
  have h2:=Nat.pow_le_pow_left h1 n
  rw[←Nat.pow_mul,Nat.mul_comm k n] at h2
  have:=irt_le (n:=n) (a:=a) hn
  omega
theorem bern (r x m:Nat):(m+1)*(r*x^m)≤r^(m+1)+m*x^(m+1):=by
  induction m with
  |zero=>simp
  | succ m ih=>
    have h1:=Nat.mul_le_mul_right r ih
    have h2:2*(r*x)≤r*r+x*x:=by
      rcases Nat.le_total r x with h |h
      · obtain⟨d,rfl⟩:=Nat.exists_eq_add_of_le h
        have:0≤d*d:=Nat.zero_le _
        grind
      · obtain⟨d,rfl⟩:=Nat.exists_eq_add_of_le h
        have:0≤d*d:=Nat.zero_le _
        grind
    have h3:=Nat.mul_le_mul_left ((m+1)*x^m) h2
    have e1:r^(m+1+1)=r^(m+1)*r:=Nat.pow_succ ..
    have e2:x^(m+1)=x^m*x:=Nat.pow_succ ..
    have e3:x^(m+1+1)=x^m*x*x:=by rw[Nat.pow_succ,e2]
    rw[e1,e3,e2]
    rw[e2] at h1
    generalize x^m=y at*
    generalize r^(m+1)=z at*
    grind
def nwt (n a x:Nat):Nat:=((n - 1)*x+a / x^(n - 1)) / n
theorem nwt_ge {n a x:Nat} (hn:n≠0) (hx:0 < x):irt n a≤nwt n a x:=by
  have hr:=irt_le (n:=n) (a:=a) hn
  generalize irt n a=r at*
  obtain⟨m,rfl⟩:∃m,n=m+1:=⟨n - 1,by omega⟩
  unfold nwt
  rw[Nat.add_sub_cancel,Nat.le_div_iff_mul_le (by omega)]
  have hb:=bern r x m
  have hp:0 < x^m:=Nat.pow_pos hx
  by_cases hc:r*(m+1)≤m*x
  · exact Nat.le_trans hc (Nat.le_add_right _ _)
  · obtain⟨t,ht⟩:∃t,r*(m+1)=m*x+t:=⟨r*(m+1) - m*x,by omega⟩
    have h1:t≤a / x^m:=by
      rw[Nat.le_div_iff_mul_le hp]
      have e1:(m+1)*(r*x^m)=m*x*x^m+t*x^m:=by
        rw[←Nat.add_mul,←ht,←Nat.mul_assoc,Nat.mul_comm (m+1) r]
      have e2:m*x^(m+1)=m*x*x^m:=by rw[Nat.pow_succ,Nat.mul_comm (x^m) x,Nat.mul_assoc]
      omega
    omega
theorem nwt_stop {n a x:Nat} (hn:n≠0) (hx:0 < x) (h:x≤nwt n a x):x^n≤a:=by
  obtain⟨m,rfl⟩:∃m,n=m+1:=⟨n - 1,by omega⟩
  unfold nwt at h
  rw[Nat.add_sub_cancel,Nat.le_div_iff_mul_le (by omega)] at h
  have hp:0 < x^m:=Nat.pow_pos hx
  have e1:x*(m+1)=m*x+x:=by rw[Nat.mul_add,Nat.mul_one,Nat.mul_comm]
  have h1:x≤a / x^m:=by omega
  rw[Nat.le_div_iff_mul_le hp] at h1
  rw[Nat.pow_succ,Nat.mul_comm]
  exact h1
theorem irt_pos {n a:Nat} (hn:n≠0) (ha:0 < a):0 < irt n a:=irt_max hn (by rw[Nat.one_pow];exact ha)
theorem nwt_pos {n a x:Nat} (hn:n≠0) (ha:0 < a) (hx:0 < x):0 < nwt n a x:=Nat.lt_of_lt_of_le (irt_pos hn ha) (nwt_ge hn hx)
end Go.Q
