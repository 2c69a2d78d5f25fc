/-
  IntervalValues: what is asked is answered, for every argument. Conditions: what is read is of bulk at most 1048576.
-/
import Derived.Test.YtpipfclemmbmcabGreatDoorK943100PkJ
import Derived.Test.YtpipfclemmbmcabGreatDoorK6860a6PkT
set_option linter.unusedVariables false
set_option linter.unusedSimpArgs false
open Bool renaming and_eq_true→φ
open List renaming all_eq_true→qBd
namespace Go.Proofs.YtpipfclemmbmcabGreatDoor.intervalValues
open Go.Q Go.Proofs.YtpipfclemmbmcabGreatDoor
open Go.ChangeShapes Go.WideShapes Go.ChangeAt Go.RowKit
set_option maxRecDepth 100000
theorem own:ownKnob Tryz.prog.godebug=none:=by kernel_rfl
theorem par:Tryz.f4.params=#[5,26,24,5,5]:=by kernel_rfl
theorem laidOut:laidOutB Tryz.prog=true:=by kernel_rfl
theorem readable:∀t∈Tryz.f4.params.toList,Tryz.prog.readableRec t=true∧t < Tryz.prog.types.size:=by
 have h:(Tryz.f4.params.toList.all fun t=>Tryz.prog.readableRec t && decide (t < Tryz.prog.types.size))=true:=by kernel_rfl
 intro t ht
 simpa using qBd.1 h t ht
theorem unb:Tryz.prog.underlying 5=some (.int .u8):=by kernel_rfl
theorem byte_wf {n:Int} (h:(Lit.int .u8 n).wf=true):0≤n∧n≤255:=by
 simp only[Lit.wf,φ,decide_eq_true_eq] at h
 have h1:IntKind.u8.min=0:=by decide
 have h2:IntKind.u8.max=255:=by decide
 omega
theorem contract (H:Type) (enc:TypeId×Value→H) (W:World) (base:Nat) (args:Array Value) (ds gs:List (DataW H)) (before:List MemPlace)
  (hval:∀(j:Nat) t v,Tryz.f4.params[j]?=some t→args[j]?=some v→Value.okWide Tryz.prog W .any base t v)
  (hW:DataW.Whole enc Tryz.prog Tryz.f4.params.toList Rows.intervalValuesSpec.vars false W args.toList ds gs before) (hL:laidMetH Tryz.prog Rows.intervalValuesUptoRow.laid W) (hk:Rows.uptoSmall H (ds ++gs)=true):
  Calls Tryz.prog 4 args W fun e W'=>∃v,e=.returned v∧Rows.intervalValuesSpec.post enc Tryz.prog Tryz.f4 false true false false W args v W':=by
 have hW':=hW
 obtain⟨p,q,hA0,hV,rfl,hfz,hnd⟩:=hW
 have hA:DataW.TrodAll enc Tryz.prog W 0 (fun _=>true) true Tryz.f4.params.toList args.toList ds p:=hA0
 have hval:=hval
 rw[par] at hA hval
 have hk:Rows.uptoBulkAll (ds ++gs)≤1048576:=of_decide_eq_true hk
 obtain⟨v0,vs0,d0,ds0,p0,q0,hargs,rfl,rfl,h0,r0⟩:=trodAll_cons hA
 obtain⟨v1,vs1,d1,ds1,p1,q1,rfl,rfl,rfl,h1,r1⟩:=trodAll_cons r0
 obtain⟨v2,vs2,d2,ds2,p2,q2,rfl,rfl,rfl,h2,r2⟩:=trodAll_cons r1
 obtain⟨v3,vs3,d3,ds3,p3,q3,rfl,rfl,rfl,h3,r3⟩:=trodAll_cons r2
 obtain⟨v4,vs4,d4,ds4,p4,q4,rfl,rfl,rfl,h4,r4⟩:=trodAll_cons r3
 obtain⟨rfl,rfl,rfl⟩:=trodAll_nil r4
 obtain rfl:args=#[v0,v1,v2,v3,v4]:=by cases args;simp_all
 obtain⟨rfl,rfl⟩:=trodVars_none hV
 clear hA0
 generalize hB:(1048576:Nat)=B at hk
 have hB':B≤1048576:=by omega
 clear hB
 simp only[Rows.uptoBulkAll,List.append_nil] at hk
 obtain⟨z0,rfl,rfl,rfl,y0⟩:=open_int unb (hval 0 5 v0 rfl rfl) h0
 obtain⟨w1,rfl,k1⟩:=(okWide_struct (flds_some fl26).choose_spec.1 (hval 1 26 v1 rfl rfl))
 obtain⟨n1,t1⟩:=h1
 obtain⟨x1,y1⟩:=open_iv t1 hB' (show Rows.uptoBulk d1≤B by omega)
 simp only[Value.cells,Array.toArray_toList] at y1
 obtain⟨w2,rfl,k2⟩:=(okWide_struct (flds_some fl24).choose_spec.1 (hval 2 24 v2 rfl rfl))
 obtain⟨n2,t2⟩:=h2
 obtain⟨g2,a2,e2,y2,_⟩:=open_rat t2 hB' (show Rows.uptoBulk d2≤B by omega)
 simp only[Value.cells,Array.toArray_toList] at y2
 obtain⟨z3,rfl,rfl,rfl,y3⟩:=open_int unb (hval 3 5 v3 rfl rfl) h3
 obtain⟨z4,rfl,rfl,rfl,y4⟩:=open_int unb (hval 4 5 v4 rfl rfl) h4
 refine((Values_law (h0:=pub W) (h:=pub W) (byte_wf y0) y1 y2 (byte_wf y3) (byte_wf y4)).run W (pub_has W) (laid_gl hL)).mono fun e W' hp=>?_
 cases e with
 |outgrown=>exact(hp:False).elim
 |panicked ch=>obtain⟨_,_,_,_,_,hp⟩:=hp;exact(hp:False).elim
 | returned v=>
  obtain⟨_,hb,_,_,_,rfl⟩:=hp
  exact⟨_,rfl,post_true laidOut rfl (by kernel_rfl) rfl readable (by simpa using hW') hb⟩
noncomputable def laidWorld (os:Os):World:=
 {World.holding Tryz.prog os ⟨#[],#[],[]⟩ with heap:=(World.holding Tryz.prog os ⟨#[],#[],[]⟩).heap.modify 0 fun
   |.cells _ t frozen=>.cells tabCells t frozen
   |o=>o}
theorem laid_met (os:Os):laidMet Tryz.prog Rows.intervalValuesUptoRow.laid ((laidWorld os).forCall (fun _ _=>0) ⟨#[],#[.int .u8 0,.agg #[.bool false,.slice none 0 0,.slice none 0 0,.bool false,.slice none 0 0,.slice none 0 0,.bool false,.bool false],.agg #[.bool false,.slice none 0 0,.slice none 0 0],.int .u8 0,.int .u8 0],[]⟩).memory:=
 laidMet_of_run' 8 (by kernel_rfl) (by kernel_rfl)
theorem reads (os:Os) {H:Type} (enc:TypeId×Value→H):∃places,DataW.whole enc Tryz.prog ((laidWorld os).forCall (fun _ _=>0) ⟨#[],#[.int .u8 0,.agg #[.bool false,.slice none 0 0,.slice none 0 0,.bool false,.slice none 0 0,.slice none 0 0,.bool false,.bool false],.agg #[.bool false,.slice none 0 0,.slice none 0 0],.int .u8 0,.int .u8 0],[]⟩).memory Tryz.f4.params.toList Rows.intervalValuesSpec.vars false (#[.int .u8 0,.agg #[.bool false,.slice none 0 0,.slice none 0 0,.bool false,.slice none 0 0,.slice none 0 0,.bool false,.bool false],.agg #[.bool false,.slice none 0 0,.slice none 0 0],.int .u8 0,.int .u8 0]:Array Value).toList 8=some ([.lit (.int .u8 0),.agg [.agg [.lit (.bool false),.nil,.nil],.agg [.lit (.bool false),.nil,.nil],.lit (.bool false),.lit (.bool false)],.agg [.lit (.bool false),.nil,.nil],.lit (.int .u8 0),.lit (.int .u8 0)],[],places):=
 ⟨[],by kernel_rfl⟩
theorem liftedUpto (os:Os) (started:os.Started) (H:Type) (enc:TypeId×Value→H) (F:Stop.Interp):
  ReturnsInHanded {} Tryz.checked os 4 .any ((Rows.OpenSpec.upto Rows.intervalValuesSpec).preRow enc Tryz.prog Tryz.f4 Rows.intervalValuesUptoRow.domain false Rows.intervalValuesUptoRow.laid) (((Rows.OpenSpec.upto Rows.intervalValuesSpec).at F).post enc Tryz.prog Tryz.f4 false true false false):=by
 obtain⟨places,hx⟩:=reads os enc
 refine returnsInHanded_of_row (C:=Tryz.checked) (s:=Rows.OpenSpec.upto Rows.intervalValuesSpec) own started (by kernel_rfl) Tryz.func4
  (witness_row_at (enc:=enc) (C:=Tryz.checked) false (laidWorld os) #[.int .u8 0,.agg #[.bool false,.slice none 0 0,.slice none 0 0,.bool false,.slice none 0 0,.slice none 0 0,.bool false,.bool false],.agg #[.bool false,.slice none 0 0,.slice none 0 0],.int .u8 0,.int .u8 0] rfl (by kernel_rfl) (by kernel_rfl) (by kernel_rfl)
   (OpenSpec.preRow_of_cond 8 hx (by kernel_rfl) (fun k hk=>by cases hk;kernel_rfl) (by kernel_rfl) (laid_met os))) ?_
 intro W base args ds gs before hval hW _ hcond _ hL _ _
 exact contract H enc W base args ds gs before hval hW hL (hcond _ rfl)
theorem saidUpto:Rows.IntervalValuesUptoSaid:=
 OpenClaim.holds_of_cond 4 Tryz.f4 rfl rfl rfl rfl rfl rfl rfl ⟨rfl,rfl,rfl,rfl,rfl⟩ rfl rfl rfl rfl rfl (by kernel_rfl) Tryz.func4 (by kernel_rfl)
  (of_decide_eq_true (by kernel_rfl)) (by unfold Func.isWrapper;first |(rw[if_pos (by decide+kernel)];kernel_rfl) |(rw[if_neg (by decide+kernel)];exact⟨rfl,rfl⟩))
  (fun os started H enc _ F=>by rw[OpenClaim.pre_eq_preRow];exact liftedUpto os started H enc F)
theorem plain (f:FuncId) (fn:Func) (hf:Tryz.pinned.checked.prog.funcNamed "inequality/inequalitylaw03.IntervalValues"=some f) (hfn:Tryz.pinned.checked.prog.funcs[f]?=some fn):
  true=Tryz.pinned.checked.prog.looks []∧∀(j:Nat) t,fn.params[j]?=some t→Tryz.pinned.checked.prog.wantsStandIn t=false:=by
 obtain rfl:f=4:=Option.some.inj ((show Tryz.prog.funcNamed "inequality/inequalitylaw03.IntervalValues"=some 4 by kernel_rfl).symm.trans hf) |>.symm
 obtain rfl:fn=Tryz.f4:=(Option.some.inj (Tryz.func4.symm.trans hfn)).symm
 refine⟨by kernel_rfl,fun j t ht=>?_⟩
 have hm:t∈Tryz.f4.params.toList:=by simpa using Array.mem_of_getElem? ht
 have hall:(Tryz.f4.params.toList.all fun u=>!Tryz.prog.wantsStandIn u)=true:=by kernel_rfl
 exact(show Tryz.prog.wantsStandIn t=false by simpa using qBd.1 hall t hm)
theorem cardUpto:Rows.IntervalValuesUptoCardSaid:=
 Claim7.holds_tied_plain_at .later [] _ _ _ _ saidUpto (fun _ h=>by cases h) (by kernel_rfl) (fun _ h=>by cases h) intervalValuesUpto_row_tie rfl ⟨rfl,rfl⟩ (by kernel_rfl) rfl plain (by kernel_rfl)
end Go.Proofs.YtpipfclemmbmcabGreatDoor.intervalValues
