/- ExprPolyValue: the card. -/
import Derived.Test.YtblecjeceecaaaaGreatDoorPV2
import Derived.Test.YtblecjeceecaaaaGreatDoorFrV
set_option linter.all false
set_option maxRecDepth 100000
namespace Go.Proofs.YtblecjeceecaaaaGreatDoor
open Go Go.Proofs.Y Go.Vc Go.Dig Go.ChangeShapes Go.WideShapes Go.ChangeAt Go.RowKit

def zeros:Array Value:=#[gX,.slice none 0 0]
theorem tb_laid{W:World}(h:laidMetH Tryz.prog Rows.exprPolyValueUptoRow.laid W):Tbs (eM W):=
 pZ (l:=Rows.exprPolyValueUptoRow.laid) (by kernel_rfl) (by kernel_rfl) h
theorem laid_met(os:Os):laidMet Tryz.prog Rows.exprPolyValueUptoRow.laid ((laidWorldE Rows.exprPolyValueUptoRow.laid os).forCall (fun _ _=>0) ⟨#[],zeros,[]⟩).memory:=
 laidMet_of_run' 8 (by kernel_rfl) (by kernel_rfl)
theorem reads(os:Os){H:Type}(enc:TypeId × Value->H):∃places,DataW.whole enc Tryz.prog ((laidWorldE Rows.exprPolyValueUptoRow.laid os).forCall (fun _ _=>0) ⟨#[],zeros,[]⟩).memory Tryz.f6.params.toList Rows.exprPolyValueSpec.vars false zeros.toList 8=some ([zdE,.nil],[],places):=
 ⟨[],by kernel_rfl⟩
theorem law_holds(h:aA)(vs:List Value)(tb:Tbs h)(hl:vs.length=([27,36]:List TypeId).length)(hin:∀(j:Nat) t v,([27,36]:List TypeId)[j]?=some t->vs[j]?=some v->In h t v):Fn0 T 6 vs h fun v _=>v=.bool true:=by
 match vs,hl with
 | [v1,v2],_=>
  obtain⟨w1,t1,rfl,i1⟩:=(hin 0 _ _ rfl rfl).tree rfl;obtain⟨s2,b2,rfl,w2,l2⟩:=tM (hin 1 _ _ rfl rfl);exact aDl h tb.tb tb.pw t1 w1 i1 s2 b2 w2 (bJd l2 Ae)

theorem goods:∀t∈([27,36]:List TypeId),t<Tryz.prog.types.size:=by decide +kernel

theorem liftedUpto(os:Os)(started:os.Started)(H:Type)(enc:TypeId × Value->H)(F:Stop.Interp):
  ReturnsInHanded {} Tryz.checked os 6 .any ((Rows.OpenSpec.upto Rows.exprPolyValueSpec).preRow enc Tryz.prog Tryz.f6 Rows.exprPolyValueUptoRow.domain false Rows.exprPolyValueUptoRow.laid) (((Rows.OpenSpec.upto Rows.exprPolyValueSpec).at F).post enc Tryz.prog Tryz.f6 false true false false):=by
 obtain⟨places,hx⟩:=reads os enc;refine returnsInHanded_of_row (C:=Tryz.checked) (s:=Rows.OpenSpec.upto Rows.exprPolyValueSpec) own started (by kernel_rfl) Tryz.func6
  (witness_row_at (enc:=enc) (C:=Tryz.checked) false (laidWorldE Rows.exprPolyValueUptoRow.laid os) zeros rfl (by kernel_rfl) (by kernel_rfl) (by kernel_rfl)
    (OpenSpec.preRow_of_cond 8 hx (by kernel_rfl) (fun k hk=>by cases hk;kernel_rfl) (by kernel_rfl) (laid_met os))) ?_
 intro W base args ds gs before hval hW _ hcond _ hL _ _;exact iO 6 Tryz.f6 Rows.exprPolyValueSpec Rows.exprPolyValueUptoRow.laid [27,36] Tryz.params6 (by exact goods) (by kernel_rfl) rfl (fun _ ds h=>match ds,h with|[_,_],_=>rfl) (fun _=>tb_laid) law_holds
  H enc W base args ds gs before hval hW (of_decide_eq_true (hcond _ rfl)) hL

theorem notMain : ¬ Check.packageOf Tryz.f6.name = "main" := by decide +kernel
set_option maxHeartbeats 0 in
theorem facts:joinedFacts Tryz.pinned.checked.prog 6 Tryz.f6 (Rows.OpenSpec.upto Rows.exprPolyValueSpec).bare Rows.exprPolyValueUptoRow=true:=by
 unfold joinedFacts;simp only[bKr]
 and_intros<;>decide +kernel
theorem named:Tryz.pinned.checked.prog.funcNamed Rows.exprPolyValueUptoRow.func=some 6:=by kernel_rfl
theorem inst:Tryz.f6.isInstance Tryz.pinned.checked.prog Rows.exprPolyValueUptoRow.origin Rows.exprPolyValueUptoRow.targs:=of_decide_eq_true (by kernel_rfl)
theorem wrapper:Tryz.f6.isWrapper Tryz.pinned.checked.prog Rows.exprPolyValueUptoRow.wrapper Rows.exprPolyValueUptoRow.mainSum:=by
 unfold Func.isWrapper;rw[if_neg notMain];exact⟨rfl,rfl⟩
theorem saidUpto:Rows.ExprPolyValueUptoSaid:=
 OpenClaim.holds_of_cond 6 Tryz.f6 rfl rfl rfl rfl rfl rfl rfl ⟨rfl,rfl,rfl,rfl,rfl⟩ rfl rfl rfl rfl rfl named Tryz.func6 facts inst wrapper
  (fun os started H enc _ F=>by rw[OpenClaim.pre_eq_preRow];exact liftedUpto os started H enc F)

theorem plain(f : FuncId)(fn : Func)(hf : Tryz.pinned.checked.prog.funcNamed "inequality/inequalitylaw04.ExprPolyValue" = some f)(hfn : Tryz.pinned.checked.prog.funcs[f]? = some fn) :
  true=Tryz.pinned.checked.prog.looks []/\∀(j:Nat) t,fn.params[j]?=some t->Tryz.pinned.checked.prog.wantsStandIn t=false:=by
 obtain rfl : f = 6 := Option.some.inj ((show Tryz.prog.funcNamed "inequality/inequalitylaw04.ExprPolyValue" = some 6 by kernel_rfl).symm.trans hf) |>.symm
 obtain rfl:fn=Tryz.f6:=(Option.some.inj (Tryz.func6.symm.trans hfn)).symm;refine⟨by kernel_rfl,fun j t ht=>?_⟩
 rw[Tryz.params6] at ht;have h1:=Array.mem_of_getElem? ht;simp at h1;rcases h1 with rfl|rfl
 .exact (show Tryz.prog.wantsStandIn 27=false by kernel_rfl)
 .exact (show Tryz.prog.wantsStandIn 36=false by kernel_rfl)

theorem text:Rows.exprPolyValueUptoRow.wfByText (Rows.OpenSpec.upto Rows.exprPolyValueSpec)=true:=by kernel_rfl
theorem main:Tryz.pinned.checked.prog.mainIs=some (Rows.exprPolyValueUptoCard.stood.harness.1,Rows.exprPolyValueUptoCard.stood.harness.2.toList):=by kernel_rfl
theorem goes:false=Rows.exprPolyValueUptoRow.goesBy Tryz.pinned.checked.prog:=by kernel_rfl
theorem cardUpto:Rows.ExprPolyValueUptoCardSaid:=
 Claim7.holds_tied_plain_at .later [] _ _ _ _ saidUpto (fun _ h=>by cases h) text (fun _ h=>by cases h) exprPolyValueUpto_row_tie rfl ⟨rfl,rfl⟩ main rfl plain goes
end Go.Proofs.YtblecjeceecaaaaGreatDoor