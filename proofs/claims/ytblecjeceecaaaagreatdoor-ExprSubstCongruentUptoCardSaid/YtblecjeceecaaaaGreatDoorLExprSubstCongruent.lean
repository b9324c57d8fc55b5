/- ExprSubstCongruent: the card. -/
import Derived.Test.YtblecjeceecaaaaGreatDoorPV3
import Derived.Test.YtblecjeceecaaaaGreatDoorFrV
set_option linter.all false
set_option maxRecDepth 100000
namespace Go.Proofs.YtblecjeceecaaaaGreatDoor
open Go Go.Proofs.Y Go.Vc Go.Dig Go.ChangeShapes Go.WideShapes Go.ChangeAt Go.RowKit

def zeros:Array Value:=#[gX,gX,.slice none 0 0]
theorem tb_laid{W:World}(h:laidMetH Tryz.prog Rows.exprSubstCongruentUptoRow.laid W):Tbs (eM W):=
 pZ (l:=Rows.exprSubstCongruentUptoRow.laid) (by kernel_rfl) (by kernel_rfl) h
theorem laid_met(os:Os):laidMet Tryz.prog Rows.exprSubstCongruentUptoRow.laid ((laidWorldE Rows.exprSubstCongruentUptoRow.laid os).forCall (fun _ _=>0) ⟨#[],zeros,[]⟩).memory:=
 laidMet_of_run' 8 (by kernel_rfl) (by kernel_rfl)
theorem reads(os:Os){H:Type}(enc:TypeId × Value->H):∃places,DataW.whole enc Tryz.prog ((laidWorldE Rows.exprSubstCongruentUptoRow.laid os).forCall (fun _ _=>0) ⟨#[],zeros,[]⟩).memory Tryz.f9.params.toList Rows.exprSubstCongruentSpec.vars false zeros.toList 8=some ([zdE,zdE,.nil],[],places):=
 ⟨[],by kernel_rfl⟩
theorem law_holds(h:aA)(vs:List Value)(tb:Tbs h)(hl:vs.length=([27,27,36]:List TypeId).length)(hin:∀(j:Nat) t v,([27,27,36]:List TypeId)[j]?=some t->vs[j]?=some v->In h t v):Fn0 T 9 vs h fun v _=>v=.bool true:=by
 match vs,hl with
 | [v1,v2,v3],_=>
  obtain⟨w1,t1,rfl,i1⟩:=(hin 0 _ _ rfl rfl).tree rfl;obtain⟨w2,t2,rfl,i2⟩:=(hin 1 _ _ rfl rfl).tree rfl;obtain⟨s3,b3,rfl,w3,l3⟩:=tM (hin 2 _ _ rfl rfl);exact vX h tb.tb tb.pw t1 w1 i1 t2 w2 i2 s3 b3 w3 (bJd l3 Ae)

theorem goods:∀t∈([27,27,36]:List TypeId),t<Tryz.prog.types.size:=by decide +kernel

theorem liftedUpto(os:Os)(started:os.Started)(H:Type)(enc:TypeId × Value->H)(F:Stop.Interp):
  ReturnsInHanded {} Tryz.checked os 9 .any ((Rows.OpenSpec.upto Rows.exprSubstCongruentSpec).preRow enc Tryz.prog Tryz.f9 Rows.exprSubstCongruentUptoRow.domain false Rows.exprSubstCongruentUptoRow.laid) (((Rows.OpenSpec.upto Rows.exprSubstCongruentSpec).at F).post enc Tryz.prog Tryz.f9 false true false false):=by
 obtain⟨places,hx⟩:=reads os enc;refine returnsInHanded_of_row (C:=Tryz.checked) (s:=Rows.OpenSpec.upto Rows.exprSubstCongruentSpec) own started (by kernel_rfl) Tryz.func9
  (witness_row_at (enc:=enc) (C:=Tryz.checked) false (laidWorldE Rows.exprSubstCongruentUptoRow.laid os) zeros rfl (by kernel_rfl) (by kernel_rfl) (by kernel_rfl)
    (OpenSpec.preRow_of_cond 8 hx (by kernel_rfl) (fun k hk=>by cases hk;kernel_rfl) (by kernel_rfl) (laid_met os))) ?_
 intro W base args ds gs before hval hW _ hcond _ hL _ _;exact iO 9 Tryz.f9 Rows.exprSubstCongruentSpec Rows.exprSubstCongruentUptoRow.laid [27,27,36] Tryz.params9 (by exact goods) (by kernel_rfl) rfl (fun _ ds h=>match ds,h with|[_,_,_],_=>rfl) (fun _=>tb_laid) law_holds
  H enc W base args ds gs before hval hW (of_decide_eq_true (hcond _ rfl)) hL

theorem notMain : ¬ Check.packageOf Tryz.f9.name = "main" := by decide +kernel
set_option maxHeartbeats 0 in
theorem facts:joinedFacts Tryz.pinned.checked.prog 9 Tryz.f9 (Rows.OpenSpec.upto Rows.exprSubstCongruentSpec).bare Rows.exprSubstCongruentUptoRow=true:=by
 unfold joinedFacts;simp only[bKr]
 and_intros<;>decide +kernel
theorem named:Tryz.pinned.checked.prog.funcNamed Rows.exprSubstCongruentUptoRow.func=some 9:=by kernel_rfl
theorem inst:Tryz.f9.isInstance Tryz.pinned.checked.prog Rows.exprSubstCongruentUptoRow.origin Rows.exprSubstCongruentUptoRow.targs:=of_decide_eq_true (by kernel_rfl)
theorem wrapper:Tryz.f9.isWrapper Tryz.pinned.checked.prog Rows.exprSubstCongruentUptoRow.wrapper Rows.exprSubstCongruentUptoRow.mainSum:=by
 unfold Func.isWrapper;rw[if_neg notMain];exact⟨rfl,rfl⟩
theorem saidUpto:Rows.ExprSubstCongruentUptoSaid:=
 OpenClaim.holds_of_cond 9 Tryz.f9 rfl rfl rfl rfl rfl rfl rfl ⟨rfl,rfl,rfl,rfl,rfl⟩ rfl rfl rfl rfl rfl named Tryz.func9 facts inst wrapper
  (fun os started H enc _ F=>by rw[OpenClaim.pre_eq_preRow];exact liftedUpto os started H enc F)

theorem plain(f : FuncId)(fn : Func)(hf : Tryz.pinned.checked.prog.funcNamed "inequality/inequalitylaw04.ExprSubstCongruent" = some f)(hfn : Tryz.pinned.checked.prog.funcs[f]? = some fn) :
  true=Tryz.pinned.checked.prog.looks []/\∀(j:Nat) t,fn.params[j]?=some t->Tryz.pinned.checked.prog.wantsStandIn t=false:=by
 obtain rfl : f = 9 := Option.some.inj ((show Tryz.prog.funcNamed "inequality/inequalitylaw04.ExprSubstCongruent" = some 9 by kernel_rfl).symm.trans hf) |>.symm
 obtain rfl:fn=Tryz.f9:=(Option.some.inj (Tryz.func9.symm.trans hfn)).symm;refine⟨by kernel_rfl,fun j t ht=>?_⟩
 rw[Tryz.params9] at ht;have h1:=Array.mem_of_getElem? ht;simp at h1;rcases h1 with rfl|rfl
 .exact (show Tryz.prog.wantsStandIn 27=false by kernel_rfl)
 .exact (show Tryz.prog.wantsStandIn 36=false by kernel_rfl)

theorem text:Rows.exprSubstCongruentUptoRow.wfByText (Rows.OpenSpec.upto Rows.exprSubstCongruentSpec)=true:=by kernel_rfl
theorem main:Tryz.pinned.checked.prog.mainIs=some (Rows.exprSubstCongruentUptoCard.stood.harness.1,Rows.exprSubstCongruentUptoCard.stood.harness.2.toList):=by kernel_rfl
theorem goes:false=Rows.exprSubstCongruentUptoRow.goesBy Tryz.pinned.checked.prog:=by kernel_rfl
theorem cardUpto:Rows.ExprSubstCongruentUptoCardSaid:=
 Claim7.holds_tied_plain_at .later [] _ _ _ _ saidUpto (fun _ h=>by cases h) text (fun _ h=>by cases h) exprSubstCongruentUpto_row_tie rfl ⟨rfl,rfl⟩ main rfl plain goes
end Go.Proofs.YtblecjeceecaaaaGreatDoor