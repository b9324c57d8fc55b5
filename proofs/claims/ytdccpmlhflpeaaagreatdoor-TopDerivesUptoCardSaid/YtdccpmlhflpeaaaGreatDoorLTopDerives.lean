/- TopDerives: the card. -/
import Derived.Test.YtdccpmlhflpeaaaGreatDoorTD3
set_option linter.all false
set_option maxRecDepth 100000
namespace Go.Proofs.YtdccpmlhflpeaaaGreatDoor
open Go Go.Proofs.Y Go.Vc Go.Dig Go.ChangeShapes Go.WideShapes Go.ChangeAt Go.RowKit

def zeros:Array Value:=#[aPd]
theorem tb_laid{W:World}(h:laidMetH Tryz.prog Rows.topDerivesUptoRow.laid W):Tbs (eR W):=
 aRm (l:=Rows.topDerivesUptoRow.laid) (by kernel_rfl) (by kernel_rfl) h
theorem laid_met(os:Os):laidMet Tryz.prog Rows.topDerivesUptoRow.laid ((laidWorldE Rows.topDerivesUptoRow.laid os).forCall (fun _ _=>0) ⟨#[],zeros,[]⟩).memory:=
 laidMet_of_run' 8 (by kernel_rfl) (by kernel_rfl)
theorem reads(os:Os){H:Type}(enc:TypeId × Value->H):∃places,DataW.whole enc Tryz.prog ((laidWorldE Rows.topDerivesUptoRow.laid os).forCall (fun _ _=>0) ⟨#[],zeros,[]⟩).memory Tryz.f3.params.toList Rows.topDerivesSpec.vars false zeros.toList 8=some ([zdD],[],places):=
 ⟨[],by kernel_rfl⟩
theorem law_holds(h:aA)(vs:List Value)(tb:Tbs h)(hl:vs.length=([30]:List TypeId).length)(hin:∀(j:Nat) t v,([30]:List TypeId)[j]?=some t->vs[j]?=some v->In h t v):Fn0 T 3 vs h fun v _=>v=.bool true:=by
 match vs,hl with
 | [v1],_=>
  obtain⟨vs1,t1,s1,u1,nm1,n1,a1,b1,l1,m1,rfl,-,i1,w1,k1,hb1,v1,k2,k3⟩:=aKf (hin 0 _ _ rfl rfl);exact aPe h tb.tb tb.pw t1 vs1 i1 s1 u1 w1 k1 nm1 hb1 n1 a1 b1 l1 m1 v1 k2 k3

theorem goods:∀t∈([30]:List TypeId),t<Tryz.prog.types.size:=by decide +kernel

theorem liftedUpto(os:Os)(started:os.Started)(H:Type)(enc:TypeId × Value->H)(F:Stop.Interp):
  ReturnsInHanded {} Tryz.checked os 3 .any ((Rows.OpenSpec.upto Rows.topDerivesSpec).preRow enc Tryz.prog Tryz.f3 Rows.topDerivesUptoRow.domain false Rows.topDerivesUptoRow.laid) (((Rows.OpenSpec.upto Rows.topDerivesSpec).at F).post enc Tryz.prog Tryz.f3 false true false false):=by
 obtain⟨places,hx⟩:=reads os enc;refine returnsInHanded_of_row (C:=Tryz.checked) (s:=Rows.OpenSpec.upto Rows.topDerivesSpec) own started (by kernel_rfl) Tryz.func3
  (witness_row_at (enc:=enc) (C:=Tryz.checked) false (laidWorldE Rows.topDerivesUptoRow.laid os) zeros rfl (by kernel_rfl) (by kernel_rfl) (by kernel_rfl)
    (OpenSpec.preRow_of_cond 8 hx (by kernel_rfl) (fun k hk=>by cases hk;kernel_rfl) (by kernel_rfl) (laid_met os))) ?_
 intro W base args ds gs before hval hW _ hcond _ hL _ _;exact aBe 3 Tryz.f3 Rows.topDerivesSpec Rows.topDerivesUptoRow.laid [30] Tryz.params3 (by exact goods) (by kernel_rfl) rfl (fun _ ds h=>match ds,h with|[_],_=>rfl) (fun _=>tb_laid) law_holds
  H enc W base args ds gs before hval hW (of_decide_eq_true (hcond _ rfl)) hL

theorem notMain : ¬ Check.packageOf Tryz.f3.name = "main" := by decide +kernel
set_option maxHeartbeats 0 in
theorem facts:joinedFacts Tryz.pinned.checked.prog 3 Tryz.f3 (Rows.OpenSpec.upto Rows.topDerivesSpec).bare Rows.topDerivesUptoRow=true:=by
 unfold joinedFacts;simp only[bFx]
 and_intros<;>decide +kernel
theorem named:Tryz.pinned.checked.prog.funcNamed Rows.topDerivesUptoRow.func=some 3:=by kernel_rfl
theorem inst:Tryz.f3.isInstance Tryz.pinned.checked.prog Rows.topDerivesUptoRow.origin Rows.topDerivesUptoRow.targs:=of_decide_eq_true (by kernel_rfl)
theorem wrapper:Tryz.f3.isWrapper Tryz.pinned.checked.prog Rows.topDerivesUptoRow.wrapper Rows.topDerivesUptoRow.mainSum:=by
 unfold Func.isWrapper;rw[if_neg notMain];exact⟨rfl,rfl⟩
theorem saidUpto:Rows.TopDerivesUptoSaid:=
 OpenClaim.holds_of_cond 3 Tryz.f3 rfl rfl rfl rfl rfl rfl rfl ⟨rfl,rfl,rfl,rfl,rfl⟩ rfl rfl rfl rfl rfl named Tryz.func3 facts inst wrapper
  (fun os started H enc _ F=>by rw[OpenClaim.pre_eq_preRow];exact liftedUpto os started H enc F)

theorem plain(f : FuncId)(fn : Func)(hf : Tryz.pinned.checked.prog.funcNamed "inequality/inequalitytop.TopDerives" = some f)(hfn : Tryz.pinned.checked.prog.funcs[f]? = some fn) :
  true=Tryz.pinned.checked.prog.looks []/\∀(j:Nat) t,fn.params[j]?=some t->Tryz.pinned.checked.prog.wantsStandIn t=false:=by
 obtain rfl : f = 3 := Option.some.inj ((show Tryz.prog.funcNamed "inequality/inequalitytop.TopDerives" = some 3 by kernel_rfl).symm.trans hf) |>.symm
 obtain rfl:fn=Tryz.f3:=(Option.some.inj (Tryz.func3.symm.trans hfn)).symm;refine⟨by kernel_rfl,fun j t ht=>?_⟩
 rw[Tryz.params3] at ht;have h1:=Array.mem_of_getElem? ht;simp at h1;obtain rfl:=h1;exact (show Tryz.prog.wantsStandIn 30=false by kernel_rfl)

theorem text:Rows.topDerivesUptoRow.wfByText (Rows.OpenSpec.upto Rows.topDerivesSpec)=true:=by kernel_rfl
theorem main:Tryz.pinned.checked.prog.mainIs=some (Rows.topDerivesUptoCard.stood.harness.1,Rows.topDerivesUptoCard.stood.harness.2.toList):=by kernel_rfl
theorem goes:false=Rows.topDerivesUptoRow.goesBy Tryz.pinned.checked.prog:=by kernel_rfl
theorem cardUpto:Rows.TopDerivesUptoCardSaid:=
 Claim7.holds_tied_plain_at .later [] _ _ _ _ saidUpto (fun _ h=>by cases h) text (fun _ h=>by cases h) topDerivesUpto_row_tie rfl ⟨rfl,rfl⟩ main rfl plain goes
end Go.Proofs.YtdccpmlhflpeaaaGreatDoor