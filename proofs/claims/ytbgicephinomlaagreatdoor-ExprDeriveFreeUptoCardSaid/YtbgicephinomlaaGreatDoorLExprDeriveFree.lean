/- ExprDeriveFree: the card. -/
import Derived.Test.YtbgicephinomlaaGreatDoorFrT
import Derived.Test.YtbgicephinomlaaGreatDoorE88
set_option linter.unusedVariables false
set_option linter.unusedSimpArgs false
set_option maxRecDepth 100000
namespace Go.Proofs.YtbgicephinomlaaGreatDoor
open Go Go.Vc Go.Dig Go.ChangeShapes Go.WideShapes Go.ChangeAt Go.RowKit

def zeros:Array Value:=#[zeroExpr,.string ByteArray.empty]
theorem tb_laid {W:World} (h:laidMetH Tryz.prog Rows.exprDeriveFreeUptoRow.laid W):Tbs (heapOf W):=
 tbs_laid (l:=Rows.exprDeriveFreeUptoRow.laid) (by kernel_rfl) (by kernel_rfl) h
theorem laid_met (os:Os):laidMet Tryz.prog Rows.exprDeriveFreeUptoRow.laid ((laidWorldE Rows.exprDeriveFreeUptoRow.laid os).forCall (fun _ _=>0) ⟨#[],zeros,[]⟩).memory:=
 laidMet_of_run' 8 (by kernel_rfl) (by kernel_rfl)
theorem reads (os:Os) {H:Type} (enc:TypeId × Value→H):∃places,DataW.whole enc Tryz.prog ((laidWorldE Rows.exprDeriveFreeUptoRow.laid os).forCall (fun _ _=>0) ⟨#[],zeros,[]⟩).memory Tryz.f4.params.toList Rows.exprDeriveFreeSpec.vars false zeros.toList 8=some ([zdE,.lit (.string [])],[],places):=
 ⟨[],by kernel_rfl⟩
theorem law_holds (h:Heap) (vs:List Value) (tb:Tbs h) (hl:vs.length=([27,9]:List TypeId).length) (hin:∀(j:Nat) t v,([27,9]:List TypeId)[j]?=some t→vs[j]?=some v→In h t v):Fn0 T 4 vs h fun v _=>v=.bool true:=by
 match vs,hl with
 | [v1,v2],_=>
  obtain ⟨w1,t1,rfl,i1⟩:=(hin 0 _ _ rfl rfl).tree rfl
  obtain ⟨s2,rfl,hs2⟩:=(hin 1 _ _ rfl rfl).str rfl
  exact DeriveFree_law h tb.tb tb.pw t1 w1 i1 s2 hs2

theorem goods:∀t∈([27,9]:List TypeId),t<Tryz.prog.types.size:=by decide +kernel

theorem liftedUpto (os:Os) (started:os.Started) (H:Type) (enc:TypeId × Value→H) (F:Stop.Interp):
  ReturnsInHanded {} Tryz.checked os 4 .any ((Rows.OpenSpec.upto Rows.exprDeriveFreeSpec).preRow enc Tryz.prog Tryz.f4 Rows.exprDeriveFreeUptoRow.domain false Rows.exprDeriveFreeUptoRow.laid) (((Rows.OpenSpec.upto Rows.exprDeriveFreeSpec).at F).post enc Tryz.prog Tryz.f4 false true false false):=by
 obtain ⟨places,hx⟩:=reads os enc
 refine returnsInHanded_of_row (C:=Tryz.checked) (s:=Rows.OpenSpec.upto Rows.exprDeriveFreeSpec) own started (by kernel_rfl) Tryz.func4
  (witness_row_at (enc:=enc) (C:=Tryz.checked) false (laidWorldE Rows.exprDeriveFreeUptoRow.laid os) zeros rfl (by kernel_rfl) (by kernel_rfl) (by kernel_rfl)
    (OpenSpec.preRow_of_cond 8 hx (by kernel_rfl) (fun k hk=>by cases hk;kernel_rfl) (by kernel_rfl) (laid_met os))) ?_
 intro W base args ds gs before hval hW _ hcond _ hL _ _
 exact law_contractT 4 Tryz.f4 Rows.exprDeriveFreeSpec Rows.exprDeriveFreeUptoRow.laid [27,9] Tryz.params4 (by exact goods) (by kernel_rfl) rfl (fun _ ds h=>match ds,h with|[_,_],_=>rfl) (fun _=>tb_laid) law_holds
  H enc W base args ds gs before hval hW (of_decide_eq_true (hcond _ rfl)) hL

theorem notMain : ¬ Check.packageOf Tryz.f4.name = "main" := by decide +kernel
set_option maxHeartbeats 0 in
theorem facts:joinedFacts Tryz.pinned.checked.prog 4 Tryz.f4 (Rows.OpenSpec.upto Rows.exprDeriveFreeSpec).bare Rows.exprDeriveFreeUptoRow=true:=by
 unfold joinedFacts
 simp only [Bool.and_eq_true]
 and_intros <;> decide +kernel
theorem named:Tryz.pinned.checked.prog.funcNamed Rows.exprDeriveFreeUptoRow.func=some 4:=by kernel_rfl
theorem inst:Tryz.f4.isInstance Tryz.pinned.checked.prog Rows.exprDeriveFreeUptoRow.origin Rows.exprDeriveFreeUptoRow.targs:=of_decide_eq_true (by kernel_rfl)
theorem wrapper:Tryz.f4.isWrapper Tryz.pinned.checked.prog Rows.exprDeriveFreeUptoRow.wrapper Rows.exprDeriveFreeUptoRow.mainSum:=by
 unfold Func.isWrapper
 rw [if_neg notMain]
 exact ⟨rfl,rfl⟩
theorem saidUpto:Rows.ExprDeriveFreeUptoSaid:=
 OpenClaim.holds_of_cond 4 Tryz.f4 rfl rfl rfl rfl rfl rfl rfl ⟨rfl,rfl,rfl,rfl,rfl⟩ rfl rfl rfl rfl rfl named Tryz.func4 facts inst wrapper
  (fun os started H enc _ F=>by rw [OpenClaim.pre_eq_preRow];exact liftedUpto os started H enc F)

theorem plain (f : FuncId) (fn : Func) (hf : Tryz.pinned.checked.prog.funcNamed "inequality/inequalitylaw04.ExprDeriveFree" = some f) (hfn : Tryz.pinned.checked.prog.funcs[f]? = some fn) :
  true=Tryz.pinned.checked.prog.looks []∧∀(j:Nat) t,fn.params[j]?=some t→Tryz.pinned.checked.prog.wantsStandIn t=false:=by
 obtain rfl : f = 4 := Option.some.inj ((show Tryz.prog.funcNamed "inequality/inequalitylaw04.ExprDeriveFree" = some 4 by kernel_rfl).symm.trans hf) |>.symm
 obtain rfl:fn=Tryz.f4:=(Option.some.inj (Tryz.func4.symm.trans hfn)).symm
 refine ⟨by kernel_rfl,fun j t ht=>?_⟩
 rw [Tryz.params4] at ht
 have h1:=Array.mem_of_getElem? ht
 simp at h1
 rcases h1 with rfl|rfl
 ·exact (show Tryz.prog.wantsStandIn 27=false by kernel_rfl)
 ·exact (show Tryz.prog.wantsStandIn 9=false by kernel_rfl)

theorem text:Rows.exprDeriveFreeUptoRow.wfByText (Rows.OpenSpec.upto Rows.exprDeriveFreeSpec)=true:=by kernel_rfl
theorem main:Tryz.pinned.checked.prog.mainIs=some (Rows.exprDeriveFreeUptoCard.stood.harness.1,Rows.exprDeriveFreeUptoCard.stood.harness.2.toList):=by kernel_rfl
theorem goes:false=Rows.exprDeriveFreeUptoRow.goesBy Tryz.pinned.checked.prog:=by kernel_rfl
theorem cardUpto:Rows.ExprDeriveFreeUptoCardSaid:=
 Claim7.holds_tied_plain_at .later [] _ _ _ _ saidUpto (fun _ h=>by cases h) text (fun _ h=>by cases h) exprDeriveFreeUpto_row_tie rfl ⟨rfl,rfl⟩ main rfl plain goes
end Go.Proofs.YtbgicephinomlaaGreatDoor