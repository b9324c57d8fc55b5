/- ExprCongruent: the card. -/
import Derived.Test.YtblecjeceecaaaaGreatDoorFrT
import Derived.Test.YtblecjeceecaaaaGreatDoorPD17
set_option linter.all false
set_option maxRecDepth 100000
namespace Go.Proofs.YtblecjeceecaaaaGreatDoor
open Go Go.Proofs.Y Go.Vc Go.Dig Go.ChangeShapes Go.WideShapes Go.ChangeAt Go.RowKit

def zeros:Array Value:=#[gX,gX]
theorem tb_laid{W:World}(h:laidMetH Tryz.prog Rows.exprCongruentUptoRow.laid W):Tbs (eM W):=
 pZ (l:=Rows.exprCongruentUptoRow.laid) (by kernel_rfl) (by kernel_rfl) h
theorem laid_met(os:Os):laidMet Tryz.prog Rows.exprCongruentUptoRow.laid ((laidWorldE Rows.exprCongruentUptoRow.laid os).forCall (fun _ _=>0) ⟨#[],zeros,[]⟩).memory:=
 laidMet_of_run' 8 (by kernel_rfl) (by kernel_rfl)
theorem reads(os:Os){H:Type}(enc:TypeId × Value->H):∃places,DataW.whole enc Tryz.prog ((laidWorldE Rows.exprCongruentUptoRow.laid os).forCall (fun _ _=>0) ⟨#[],zeros,[]⟩).memory Tryz.f3.params.toList Rows.exprCongruentSpec.vars false zeros.toList 8=some ([zdE,zdE],[],places):=
 ⟨[],by kernel_rfl⟩
theorem law_holds(h:aA)(vs:List Value)(tb:Tbs h)(hl:vs.length=([27,27]:List TypeId).length)(hin:∀(j:Nat) t v,([27,27]:List TypeId)[j]?=some t->vs[j]?=some v->In h t v):Fn0 T 3 vs h fun v _=>v=.bool true:=by
 match vs,hl with
 | [v1,v2],_=>
  obtain⟨w1,t1,rfl,i1⟩:=(hin 0 _ _ rfl rfl).tree rfl;obtain⟨w2,t2,rfl,i2⟩:=(hin 1 _ _ rfl rfl).tree rfl;exact aDn h tb.tb tb.pw t1 w1 i1 t2 w2 i2

theorem goods:∀t∈([27,27]:List TypeId),t<Tryz.prog.types.size:=by decide +kernel

theorem liftedUpto(os:Os)(started:os.Started)(H:Type)(enc:TypeId × Value->H)(F:Stop.Interp):
  ReturnsInHanded {} Tryz.checked os 3 .any ((Rows.OpenSpec.upto Rows.exprCongruentSpec).preRow enc Tryz.prog Tryz.f3 Rows.exprCongruentUptoRow.domain false Rows.exprCongruentUptoRow.laid) (((Rows.OpenSpec.upto Rows.exprCongruentSpec).at F).post enc Tryz.prog Tryz.f3 false true false false):=by
 obtain⟨places,hx⟩:=reads os enc;refine returnsInHanded_of_row (C:=Tryz.checked) (s:=Rows.OpenSpec.upto Rows.exprCongruentSpec) own started (by kernel_rfl) Tryz.func3
  (witness_row_at (enc:=enc) (C:=Tryz.checked) false (laidWorldE Rows.exprCongruentUptoRow.laid os) zeros rfl (by kernel_rfl) (by kernel_rfl) (by kernel_rfl)
    (OpenSpec.preRow_of_cond 8 hx (by kernel_rfl) (fun k hk=>by cases hk;kernel_rfl) (by kernel_rfl) (laid_met os))) ?_
 intro W base args ds gs before hval hW _ hcond _ hL _ _;exact iO 3 Tryz.f3 Rows.exprCongruentSpec Rows.exprCongruentUptoRow.laid [27,27] Tryz.params3 (by exact goods) (by kernel_rfl) rfl (fun _ ds h=>match ds,h with|[_,_],_=>rfl) (fun _=>tb_laid) law_holds
  H enc W base args ds gs before hval hW (of_decide_eq_true (hcond _ rfl)) hL

theorem notMain : ¬ Check.packageOf Tryz.f3.name = "main" := by decide +kernel
set_option maxHeartbeats 0 in
theorem facts:joinedFacts Tryz.pinned.checked.prog 3 Tryz.f3 (Rows.OpenSpec.upto Rows.exprCongruentSpec).bare Rows.exprCongruentUptoRow=true:=by
 unfold joinedFacts;simp only[bKr]
 and_intros<;>decide +kernel
theorem named:Tryz.pinned.checked.prog.funcNamed Rows.exprCongruentUptoRow.func=some 3:=by kernel_rfl
theorem inst:Tryz.f3.isInstance Tryz.pinned.checked.prog Rows.exprCongruentUptoRow.origin Rows.exprCongruentUptoRow.targs:=of_decide_eq_true (by kernel_rfl)
theorem wrapper:Tryz.f3.isWrapper Tryz.pinned.checked.prog Rows.exprCongruentUptoRow.wrapper Rows.exprCongruentUptoRow.mainSum:=by
 unfold Func.isWrapper;rw[if_neg notMain];exact⟨rfl,rfl⟩
theorem saidUpto:Rows.ExprCongruentUptoSaid:=
 OpenClaim.holds_of_cond 3 Tryz.f3 rfl rfl rfl rfl rfl rfl rfl ⟨rfl,rfl,rfl,rfl,rfl⟩ rfl rfl rfl rfl rfl named Tryz.func3 facts inst wrapper
  (fun os started H enc _ F=>by rw[OpenClaim.pre_eq_preRow];exact liftedUpto os started H enc F)

theorem plain(f : FuncId)(fn : Func)(hf : Tryz.pinned.checked.prog.funcNamed "inequality/inequalitylaw04.ExprCongruent" = some f)(hfn : Tryz.pinned.checked.prog.funcs[f]? = some fn) :
  true=Tryz.pinned.checked.prog.looks []/\∀(j:Nat) t,fn.params[j]?=some t->Tryz.pinned.checked.prog.wantsStandIn t=false:=by
 obtain rfl : f = 3 := Option.some.inj ((show Tryz.prog.funcNamed "inequality/inequalitylaw04.ExprCongruent" = some 3 by kernel_rfl).symm.trans hf) |>.symm
 obtain rfl:fn=Tryz.f3:=(Option.some.inj (Tryz.func3.symm.trans hfn)).symm;refine⟨by kernel_rfl,fun j t ht=>?_⟩
 rw[Tryz.params3] at ht;have h1:=Array.mem_of_getElem? ht;simp at h1;obtain rfl:=h1;exact (show Tryz.prog.wantsStandIn 27=false by kernel_rfl)

theorem text:Rows.exprCongruentUptoRow.wfByText (Rows.OpenSpec.upto Rows.exprCongruentSpec)=true:=by kernel_rfl
theorem main:Tryz.pinned.checked.prog.mainIs=some (Rows.exprCongruentUptoCard.stood.harness.1,Rows.exprCongruentUptoCard.stood.harness.2.toList):=by kernel_rfl
theorem goes:false=Rows.exprCongruentUptoRow.goesBy Tryz.pinned.checked.prog:=by kernel_rfl
theorem cardUpto:Rows.ExprCongruentUptoCardSaid:=
 Claim7.holds_tied_plain_at .later [] _ _ _ _ saidUpto (fun _ h=>by cases h) text (fun _ h=>by cases h) exprCongruentUpto_row_tie rfl ⟨rfl,rfl⟩ main rfl plain goes
end Go.Proofs.YtblecjeceecaaaaGreatDoor