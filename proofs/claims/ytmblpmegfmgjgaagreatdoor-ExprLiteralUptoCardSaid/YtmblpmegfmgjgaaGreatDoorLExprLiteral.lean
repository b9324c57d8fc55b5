/- ExprLiteral: the card. -/
import Derived.Test.YtmblpmegfmgjgaaGreatDoorFrT
import Derived.Test.YtmblpmegfmgjgaaGreatDoorE69
import Derived.Test.YtmblpmegfmgjgaaGreatDoorFrV
set_option linter.unusedVariables false
set_option linter.unusedSimpArgs false
namespace Go.Proofs.YtmblpmegfmgjgaaGreatDoor
open Go Go.Vc Go.Dig Go.ChangeShapes Go.WideShapes Go.ChangeAt Go.RowKit

def zeros:Array Value:=#[zeroRat]
set_option maxRecDepth 20000 in
theorem tb_laid {W:World} (h:laidMetH Tryz.prog Rows.exprLiteralUptoRow.laid W):Tbs (heapOf W):=
 tbs_laid (l:=Rows.exprLiteralUptoRow.laid) (by kernel_rfl) (by kernel_rfl) h
theorem laid_met (os:Os):laidMet Tryz.prog Rows.exprLiteralUptoRow.laid ((laidWorldE Rows.exprLiteralUptoRow.laid os).forCall (fun _ _=>0) ⟨#[],zeros,[]⟩).memory:=
 laidMet_of_run' 8 (by kernel_rfl) (by kernel_rfl)
theorem reads (os:Os) {H:Type} (enc:TypeId × Value→H):∃places,DataW.whole enc Tryz.prog ((laidWorldE Rows.exprLiteralUptoRow.laid os).forCall (fun _ _=>0) ⟨#[],zeros,[]⟩).memory Tryz.f5.params.toList Rows.exprLiteralSpec.vars false zeros.toList 8=some ([zd],[],places):=
 ⟨[],by kernel_rfl⟩
set_option maxRecDepth 20000 in
theorem law_holds (h:Heap) (vs:List Value) (tb:Tbs h) (hl:vs.length=([24]:List TypeId).length) (hin:∀(j:Nat) t v,([24]:List TypeId)[j]?=some t→vs[j]?=some v→In h t v):Fn0 T 5 vs h fun v _=>v=.bool true:=by
 match vs,hl with
 | [v1],_=>
  obtain ⟨n1,a1,b1,x1,rfl,w1⟩:=open_num (hin 0 _ _ rfl rfl)
  exact Literal_law h tb.tb tb.pw n1 a1 b1 x1 w1

theorem goods:∀t∈([24]:List TypeId),t<Tryz.prog.types.size:=by decide +kernel

set_option maxRecDepth 100000 in
theorem liftedUpto (os:Os) (started:os.Started) (H:Type) (enc:TypeId × Value→H) (F:Stop.Interp):
  ReturnsInHanded {} Tryz.checked os 5 .any ((Rows.OpenSpec.upto Rows.exprLiteralSpec).preRow enc Tryz.prog Tryz.f5 Rows.exprLiteralUptoRow.domain false Rows.exprLiteralUptoRow.laid) (((Rows.OpenSpec.upto Rows.exprLiteralSpec).at F).post enc Tryz.prog Tryz.f5 false true false false):=by
 obtain ⟨places,hx⟩:=reads os enc
 refine returnsInHanded_of_row (C:=Tryz.checked) (s:=Rows.OpenSpec.upto Rows.exprLiteralSpec) own started (by kernel_rfl) Tryz.func5
  (witness_row_at (enc:=enc) (C:=Tryz.checked) false (laidWorldE Rows.exprLiteralUptoRow.laid os) zeros rfl (by kernel_rfl) (by kernel_rfl) (by kernel_rfl)
    (OpenSpec.preRow_of_cond 8 hx (by kernel_rfl) (fun k hk=>by cases hk;kernel_rfl) (by kernel_rfl) (laid_met os))) ?_
 intro W base args ds gs before hval hW _ hcond _ hL _ _
 exact law_contractT 5 Tryz.f5 Rows.exprLiteralSpec Rows.exprLiteralUptoRow.laid [24] Tryz.params5 (by exact goods) (by kernel_rfl) rfl (fun _ ds h=>match ds,h with | [_],_=>rfl) (fun _=>tb_laid) law_holds
  H enc W base args ds gs before hval hW (of_decide_eq_true (hcond _ rfl)) hL

theorem notMain : ¬ Check.packageOf Tryz.f5.name = "main" := by decide +kernel
set_option maxHeartbeats 0 in
theorem facts:joinedFacts Tryz.pinned.checked.prog 5 Tryz.f5 (Rows.OpenSpec.upto Rows.exprLiteralSpec).bare Rows.exprLiteralUptoRow=true:=by
 unfold joinedFacts
 simp only [Bool.and_eq_true]
 and_intros <;> decide +kernel
theorem named:Tryz.pinned.checked.prog.funcNamed Rows.exprLiteralUptoRow.func=some 5:=by kernel_rfl
theorem inst:Tryz.f5.isInstance Tryz.pinned.checked.prog Rows.exprLiteralUptoRow.origin Rows.exprLiteralUptoRow.targs:=of_decide_eq_true (by kernel_rfl)
theorem wrapper:Tryz.f5.isWrapper Tryz.pinned.checked.prog Rows.exprLiteralUptoRow.wrapper Rows.exprLiteralUptoRow.mainSum:=by
 unfold Func.isWrapper
 rw [if_neg notMain]
 exact ⟨rfl,rfl⟩
theorem saidUpto:Rows.ExprLiteralUptoSaid:=
 OpenClaim.holds_of_cond 5 Tryz.f5 rfl rfl rfl rfl rfl rfl rfl ⟨rfl,rfl,rfl,rfl,rfl⟩ rfl rfl rfl rfl rfl named Tryz.func5 facts inst wrapper
  (fun os started H enc _ F=>by rw [OpenClaim.pre_eq_preRow];exact liftedUpto os started H enc F)

theorem plain (f : FuncId) (fn : Func) (hf : Tryz.pinned.checked.prog.funcNamed "inequality/inequalitylaw04.ExprLiteral" = some f) (hfn : Tryz.pinned.checked.prog.funcs[f]? = some fn) :
  true=Tryz.pinned.checked.prog.looks []∧∀(j:Nat) t,fn.params[j]?=some t→Tryz.pinned.checked.prog.wantsStandIn t=false:=by
 obtain rfl : f = 5 := Option.some.inj ((show Tryz.prog.funcNamed "inequality/inequalitylaw04.ExprLiteral" = some 5 by kernel_rfl).symm.trans hf) |>.symm
 obtain rfl:fn=Tryz.f5:=(Option.some.inj (Tryz.func5.symm.trans hfn)).symm
 refine ⟨by kernel_rfl,fun j t ht=>?_⟩
 rw [Tryz.params5] at ht
 have h1:=Array.mem_of_getElem? ht
 simp at h1
 obtain rfl:=h1
 exact (show Tryz.prog.wantsStandIn 24=false by kernel_rfl)

theorem text:Rows.exprLiteralUptoRow.wfByText (Rows.OpenSpec.upto Rows.exprLiteralSpec)=true:=by kernel_rfl
theorem main:Tryz.pinned.checked.prog.mainIs=some (Rows.exprLiteralUptoCard.stood.harness.1,Rows.exprLiteralUptoCard.stood.harness.2.toList):=by kernel_rfl
theorem goes:false=Rows.exprLiteralUptoRow.goesBy Tryz.pinned.checked.prog:=by kernel_rfl
theorem cardUpto:Rows.ExprLiteralUptoCardSaid:=
 Claim7.holds_tied_plain_at .later [] _ _ _ _ saidUpto (fun _ h=>by cases h) text (fun _ h=>by cases h) exprLiteralUpto_row_tie rfl ⟨rfl,rfl⟩ main rfl plain goes
end Go.Proofs.YtmblpmegfmgjgaaGreatDoor