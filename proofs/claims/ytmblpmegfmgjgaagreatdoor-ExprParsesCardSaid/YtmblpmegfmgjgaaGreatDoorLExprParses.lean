/- ExprParses: the card. -/
import Derived.Test.YtmblpmegfmgjgaaGreatDoorFrE
import Derived.Test.YtmblpmegfmgjgaaGreatDoorE106
set_option linter.unusedVariables false
set_option linter.unusedSimpArgs false
set_option maxRecDepth 100000
namespace Go.Proofs.YtmblpmegfmgjgaaGreatDoor
open Go Go.Vc Go.Dig Go.ChangeShapes Go.WideShapes Go.ChangeAt Go.RowKit

def zeros:Array Value:=#[.string ByteArray.empty]
theorem tb_laid {W:World} (h:laidMetH Tryz.prog Rows.exprParsesRow.laid W):Tbs (heapOf W):=
 tbs_laid (l:=Rows.exprParsesRow.laid) (by kernel_rfl) (by kernel_rfl) h
theorem laid_met (os:Os):laidMet Tryz.prog Rows.exprParsesRow.laid ((laidWorldE Rows.exprParsesRow.laid os).forCall (fun _ _=>0) ⟨#[],zeros,[]⟩).memory:=
 laidMet_of_run' 8 (by kernel_rfl) (by kernel_rfl)
theorem reads (os:Os) {H:Type} (enc:TypeId × Value→H):∃places,DataW.whole enc Tryz.prog ((laidWorldE Rows.exprParsesRow.laid os).forCall (fun _ _=>0) ⟨#[],zeros,[]⟩).memory Tryz.f14.params.toList Rows.exprParsesSpec.vars false zeros.toList 8=some ([.lit (.string [])],[],places):=
 ⟨[],by kernel_rfl⟩
theorem law_holds (h:Heap) (xs:List Arg) (tb:Tbs h) (o:oks h [9] xs):Fn0 T 14 (xs.map Arg.val) h fun v _=>v=.bool true:=by
 obtain ⟨x1,xs1,rfl,o1,r1⟩:=oks_cons o
 obtain ⟨s1,rfl,hs1⟩:=ok_str Tryz.underlying9 o1
 obtain rfl:=oks_nil r1
 exact Parses_law h tb.tb tb.pw s1 hs1

theorem goods:∀t∈[9],good t:=by
 intro t ht
 simp only [List.mem_cons,List.not_mem_nil,or_false] at ht
 obtain rfl:=ht
 exact .inl (.inr Tryz.underlying9)
theorem liftedUpto (os:Os) (started:os.Started) (H:Type) (enc:TypeId × Value→H) (F:Stop.Interp):
  ReturnsInHanded {} Tryz.checked os 14 .any ((OpenSpec.ofChange Rows.exprParsesSpec).preRow enc Tryz.prog Tryz.f14 Rows.exprParsesRow.domain false Rows.exprParsesRow.laid) (((OpenSpec.ofChange Rows.exprParsesSpec).at F).post enc Tryz.prog Tryz.f14 false true false false):=by
 obtain ⟨places,hx⟩:=reads os enc
 refine returnsInHanded_of_row (C:=Tryz.checked) (s:=OpenSpec.ofChange Rows.exprParsesSpec) own started (by kernel_rfl) Tryz.func14
  (witness_row_at (enc:=enc) (C:=Tryz.checked) false (laidWorldE Rows.exprParsesRow.laid os) zeros rfl (by kernel_rfl) (by kernel_rfl) (by kernel_rfl)
    (OpenSpec.preRow_of_cond 8 hx (by kernel_rfl) (fun k hk=>by cases hk) (by kernel_rfl) (laid_met os))) ?_
 intro W base args ds gs before hval hW _ hcond _ hL _ _
 exact law_contractE 14 Tryz.f14 Rows.exprParsesSpec Rows.exprParsesRow.laid [9] Tryz.params14 (by exact goods) (by kernel_rfl) rfl (fun _ ds h=>match ds,h with|[_],_=>rfl) (fun _=>tb_laid) law_holds
  H enc W base args ds gs before hval hW (.inr (by decide)) hL

theorem notMain : ¬ Check.packageOf Tryz.f14.name = "main" := by decide +kernel
set_option maxHeartbeats 0 in
theorem facts:joinedFacts Tryz.pinned.checked.prog 14 Tryz.f14 (OpenSpec.ofChange Rows.exprParsesSpec).bare Rows.exprParsesRow=true:=by
 unfold joinedFacts
 simp only [Bool.and_eq_true]
 and_intros <;> decide +kernel
theorem named:Tryz.pinned.checked.prog.funcNamed Rows.exprParsesRow.func=some 14:=by kernel_rfl
theorem inst:Tryz.f14.isInstance Tryz.pinned.checked.prog Rows.exprParsesRow.origin Rows.exprParsesRow.targs:=of_decide_eq_true (by kernel_rfl)
theorem wrapper:Tryz.f14.isWrapper Tryz.pinned.checked.prog Rows.exprParsesRow.wrapper Rows.exprParsesRow.mainSum:=by
 unfold Func.isWrapper
 rw [if_neg notMain]
 exact ⟨rfl,rfl⟩
theorem saidUpto:Rows.ExprParsesSaid:=
 OpenClaim.holds_of_cond 14 Tryz.f14 rfl rfl rfl rfl rfl rfl rfl ⟨rfl,rfl,rfl,rfl,rfl⟩ rfl rfl rfl rfl rfl named Tryz.func14 facts inst wrapper
  (fun os started H enc _ F=>by rw [OpenClaim.pre_eq_preRow];exact liftedUpto os started H enc F)

theorem plain (f : FuncId) (fn : Func) (hf : Tryz.pinned.checked.prog.funcNamed "inequality/inequalitylaw04.ExprParses" = some f) (hfn : Tryz.pinned.checked.prog.funcs[f]? = some fn) :
  true=Tryz.pinned.checked.prog.looks []∧∀(j:Nat) t,fn.params[j]?=some t→Tryz.pinned.checked.prog.wantsStandIn t=false:=by
 obtain rfl : f = 14 := Option.some.inj ((show Tryz.prog.funcNamed "inequality/inequalitylaw04.ExprParses" = some 14 by kernel_rfl).symm.trans hf) |>.symm
 obtain rfl:fn=Tryz.f14:=(Option.some.inj (Tryz.func14.symm.trans hfn)).symm
 refine ⟨by kernel_rfl,fun j t ht=>?_⟩
 rw [Tryz.params14] at ht
 have h1:=Array.mem_of_getElem? ht
 simp at h1
 obtain rfl:=h1
 exact (show Tryz.prog.wantsStandIn 9=false by kernel_rfl)

theorem text:Rows.exprParsesRow.wfByText (OpenSpec.ofChange Rows.exprParsesSpec)=true:=by kernel_rfl
theorem main:Tryz.pinned.checked.prog.mainIs=some (Rows.exprParsesCard.stood.harness.1,Rows.exprParsesCard.stood.harness.2.toList):=by kernel_rfl
theorem goes:false=Rows.exprParsesRow.goesBy Tryz.pinned.checked.prog:=by kernel_rfl
theorem cardUpto:Rows.ExprParsesCardSaid:=
 Claim7.holds_tied_plain_at .later [] _ _ _ _ saidUpto (fun _ h=>by cases h) text (fun _ h=>by cases h) exprParses_row_tie rfl ⟨rfl,rfl⟩ main rfl plain goes
end Go.Proofs.YtmblpmegfmgjgaaGreatDoor