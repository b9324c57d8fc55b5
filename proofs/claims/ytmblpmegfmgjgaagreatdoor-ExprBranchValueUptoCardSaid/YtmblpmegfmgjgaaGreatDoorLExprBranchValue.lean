/- ExprBranchValue: the card. -/
import Derived.Test.YtmblpmegfmgjgaaGreatDoorFrT
import Derived.Test.YtmblpmegfmgjgaaGreatDoorE77
import Derived.Test.YtmblpmegfmgjgaaGreatDoorFrV
set_option linter.unusedVariables false
set_option linter.unusedSimpArgs false
namespace Go.Proofs.YtmblpmegfmgjgaaGreatDoor
open Go Go.Vc Go.Dig Go.ChangeShapes Go.WideShapes Go.ChangeAt Go.RowKit

def zeros:Array Value:=#[zeroExpr,.slice none 0 0]
set_option maxRecDepth 20000 in
theorem tb_laid {W:World} (h:laidMetH Tryz.prog Rows.exprBranchValueUptoRow.laid W):Tbs (heapOf W):=
 tbs_laid (l:=Rows.exprBranchValueUptoRow.laid) (by kernel_rfl) (by kernel_rfl) h
theorem laid_met (os:Os):laidMet Tryz.prog Rows.exprBranchValueUptoRow.laid ((laidWorldE Rows.exprBranchValueUptoRow.laid os).forCall (fun _ _=>0) ⟨#[],zeros,[]⟩).memory:=
 laidMet_of_run' 8 (by kernel_rfl) (by kernel_rfl)
theorem reads (os:Os) {H:Type} (enc:TypeId × Value→H):∃places,DataW.whole enc Tryz.prog ((laidWorldE Rows.exprBranchValueUptoRow.laid os).forCall (fun _ _=>0) ⟨#[],zeros,[]⟩).memory Tryz.f9.params.toList Rows.exprBranchValueSpec.vars false zeros.toList 8=some ([zdE,.nil],[],places):=
 ⟨[],by kernel_rfl⟩
set_option maxRecDepth 20000 in
theorem law_holds (h:Heap) (vs:List Value) (tb:Tbs h) (hl:vs.length=([27,34]:List TypeId).length) (hin:∀(j:Nat) t v,([27,34]:List TypeId)[j]?=some t→vs[j]?=some v→In h t v):Fn0 T 9 vs h fun v _=>v=.bool true:=by
 match vs,hl with
 | [v1,v2],_=>
  obtain ⟨w1,t1,rfl,i1⟩:=(hin 0 _ _ rfl rfl).tree rfl
  obtain ⟨s2,b2,rfl,w2,l2⟩:=open_values (hin 1 _ _ rfl rfl)
  exact BranchValue_law h tb.tb tb.pw t1 w1 i1 s2 b2 w2 (Nat.le_trans l2 (by decide))

theorem goods:∀t∈([27,34]:List TypeId),t<Tryz.prog.types.size:=by decide +kernel

set_option maxRecDepth 100000 in
theorem liftedUpto (os:Os) (started:os.Started) (H:Type) (enc:TypeId × Value→H) (F:Stop.Interp):
  ReturnsInHanded {} Tryz.checked os 9 .any ((Rows.OpenSpec.upto Rows.exprBranchValueSpec).preRow enc Tryz.prog Tryz.f9 Rows.exprBranchValueUptoRow.domain false Rows.exprBranchValueUptoRow.laid) (((Rows.OpenSpec.upto Rows.exprBranchValueSpec).at F).post enc Tryz.prog Tryz.f9 false true false false):=by
 obtain ⟨places,hx⟩:=reads os enc
 refine returnsInHanded_of_row (C:=Tryz.checked) (s:=Rows.OpenSpec.upto Rows.exprBranchValueSpec) own started (by kernel_rfl) Tryz.func9
  (witness_row_at (enc:=enc) (C:=Tryz.checked) false (laidWorldE Rows.exprBranchValueUptoRow.laid os) zeros rfl (by kernel_rfl) (by kernel_rfl) (by kernel_rfl)
    (OpenSpec.preRow_of_cond 8 hx (by kernel_rfl) (fun k hk=>by cases hk;kernel_rfl) (by kernel_rfl) (laid_met os))) ?_
 intro W base args ds gs before hval hW _ hcond _ hL _ _
 exact law_contractT 9 Tryz.f9 Rows.exprBranchValueSpec Rows.exprBranchValueUptoRow.laid [27,34] Tryz.params9 (by exact goods) (by kernel_rfl) rfl (fun _ ds h=>match ds,h with | [_,_],_=>rfl) (fun _=>tb_laid) law_holds
  H enc W base args ds gs before hval hW (of_decide_eq_true (hcond _ rfl)) hL

theorem notMain : ¬ Check.packageOf Tryz.f9.name = "main" := by decide +kernel
set_option maxHeartbeats 0 in
theorem facts:joinedFacts Tryz.pinned.checked.prog 9 Tryz.f9 (Rows.OpenSpec.upto Rows.exprBranchValueSpec).bare Rows.exprBranchValueUptoRow=true:=by
 unfold joinedFacts
 simp only [Bool.and_eq_true]
 and_intros <;> decide +kernel
theorem named:Tryz.pinned.checked.prog.funcNamed Rows.exprBranchValueUptoRow.func=some 9:=by kernel_rfl
theorem inst:Tryz.f9.isInstance Tryz.pinned.checked.prog Rows.exprBranchValueUptoRow.origin Rows.exprBranchValueUptoRow.targs:=of_decide_eq_true (by kernel_rfl)
theorem wrapper:Tryz.f9.isWrapper Tryz.pinned.checked.prog Rows.exprBranchValueUptoRow.wrapper Rows.exprBranchValueUptoRow.mainSum:=by
 unfold Func.isWrapper
 rw [if_neg notMain]
 exact ⟨rfl,rfl⟩
theorem saidUpto:Rows.ExprBranchValueUptoSaid:=
 OpenClaim.holds_of_cond 9 Tryz.f9 rfl rfl rfl rfl rfl rfl rfl ⟨rfl,rfl,rfl,rfl,rfl⟩ rfl rfl rfl rfl rfl named Tryz.func9 facts inst wrapper
  (fun os started H enc _ F=>by rw [OpenClaim.pre_eq_preRow];exact liftedUpto os started H enc F)

theorem plain (f : FuncId) (fn : Func) (hf : Tryz.pinned.checked.prog.funcNamed "inequality/inequalitylaw04.ExprBranchValue" = some f) (hfn : Tryz.pinned.checked.prog.funcs[f]? = some fn) :
  true=Tryz.pinned.checked.prog.looks []∧∀(j:Nat) t,fn.params[j]?=some t→Tryz.pinned.checked.prog.wantsStandIn t=false:=by
 obtain rfl : f = 9 := Option.some.inj ((show Tryz.prog.funcNamed "inequality/inequalitylaw04.ExprBranchValue" = some 9 by kernel_rfl).symm.trans hf) |>.symm
 obtain rfl:fn=Tryz.f9:=(Option.some.inj (Tryz.func9.symm.trans hfn)).symm
 refine ⟨by kernel_rfl,fun j t ht=>?_⟩
 rw [Tryz.params9] at ht
 have h1:=Array.mem_of_getElem? ht
 simp at h1
 rcases h1 with rfl | rfl
 ·exact (show Tryz.prog.wantsStandIn 27=false by kernel_rfl)
 ·exact (show Tryz.prog.wantsStandIn 34=false by kernel_rfl)

theorem text:Rows.exprBranchValueUptoRow.wfByText (Rows.OpenSpec.upto Rows.exprBranchValueSpec)=true:=by kernel_rfl
theorem main:Tryz.pinned.checked.prog.mainIs=some (Rows.exprBranchValueUptoCard.stood.harness.1,Rows.exprBranchValueUptoCard.stood.harness.2.toList):=by kernel_rfl
theorem goes:false=Rows.exprBranchValueUptoRow.goesBy Tryz.pinned.checked.prog:=by kernel_rfl
theorem cardUpto:Rows.ExprBranchValueUptoCardSaid:=
 Claim7.holds_tied_plain_at .later [] _ _ _ _ saidUpto (fun _ h=>by cases h) text (fun _ h=>by cases h) exprBranchValueUpto_row_tie rfl ⟨rfl,rfl⟩ main rfl plain goes
end Go.Proofs.YtmblpmegfmgjgaaGreatDoor