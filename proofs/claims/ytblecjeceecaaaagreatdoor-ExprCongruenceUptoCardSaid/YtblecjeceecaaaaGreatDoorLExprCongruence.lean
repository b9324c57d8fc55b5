/- ExprCongruence: the card. -/
import Derived.Test.YtblecjeceecaaaaGreatDoorFrT
import Derived.Test.YtblecjeceecaaaaGreatDoorPF13
set_option linter.all false
set_option maxRecDepth 100000
namespace Go.Proofs.YtblecjeceecaaaaGreatDoor
open Go Go.Proofs.Y Go.Vc Go.Dig Go.ChangeShapes Go.WideShapes Go.ChangeAt Go.RowKit

def zeros:Array Value:=#[gX,gX,gX]
theorem tb_laid{W:World}(h:laidMetH Tryz.prog Rows.exprCongruenceUptoRow.laid W):Tbs (eM W):=
 pZ (l:=Rows.exprCongruenceUptoRow.laid) (by kernel_rfl) (by kernel_rfl) h
theorem laid_met(os:Os):laidMet Tryz.prog Rows.exprCongruenceUptoRow.laid ((laidWorldE Rows.exprCongruenceUptoRow.laid os).forCall (fun _ _=>0) ⟨#[],zeros,[]⟩).memory:=
 laidMet_of_run' 8 (by kernel_rfl) (by kernel_rfl)
theorem reads(os:Os){H:Type}(enc:TypeId × Value->H):∃places,DataW.whole enc Tryz.prog ((laidWorldE Rows.exprCongruenceUptoRow.laid os).forCall (fun _ _=>0) ⟨#[],zeros,[]⟩).memory Tryz.f4.params.toList Rows.exprCongruenceSpec.vars false zeros.toList 8=some ([zdE,zdE,zdE],[],places):=
 ⟨[],by kernel_rfl⟩
theorem law_holds(h:aA)(vs:List Value)(tb:Tbs h)(hl:vs.length=([27,27,27]:List TypeId).length)(hin:∀(j:Nat) t v,([27,27,27]:List TypeId)[j]?=some t->vs[j]?=some v->In h t v):Fn0 T 4 vs h fun v _=>v=.bool true:=by
 match vs,hl with
 | [v1,v2,v3],_=>
  obtain⟨w1,t1,rfl,i1⟩:=(hin 0 _ _ rfl rfl).tree rfl;obtain⟨w2,t2,rfl,i2⟩:=(hin 1 _ _ rfl rfl).tree rfl;obtain⟨w3,t3,rfl,i3⟩:=(hin 2 _ _ rfl rfl).tree rfl;exact aC4 h tb.tb tb.pw t1 w1 i1 t2 w2 i2 t3 w3 i3

theorem goods:∀t∈([27,27,27]:List TypeId),t<Tryz.prog.types.size:=by decide +kernel

theorem liftedUpto(os:Os)(started:os.Started)(H:Type)(enc:TypeId × Value->H)(F:Stop.Interp):
  ReturnsInHanded {} Tryz.checked os 4 .any ((Rows.OpenSpec.upto Rows.exprCongruenceSpec).preRow enc Tryz.prog Tryz.f4 Rows.exprCongruenceUptoRow.domain false Rows.exprCongruenceUptoRow.laid) (((Rows.OpenSpec.upto Rows.exprCongruenceSpec).at F).post enc Tryz.prog Tryz.f4 false true false false):=by
 obtain⟨places,hx⟩:=reads os enc;refine returnsInHanded_of_row (C:=Tryz.checked) (s:=Rows.OpenSpec.upto Rows.exprCongruenceSpec) own started (by kernel_rfl) Tryz.func4
  (witness_row_at (enc:=enc) (C:=Tryz.checked) false (laidWorldE Rows.exprCongruenceUptoRow.laid os) zeros rfl (by kernel_rfl) (by kernel_rfl) (by kernel_rfl)
    (OpenSpec.preRow_of_cond 8 hx (by kernel_rfl) (fun k hk=>by cases hk;kernel_rfl) (by kernel_rfl) (laid_met os))) ?_
 intro W base args ds gs before hval hW _ hcond _ hL _ _;exact iO 4 Tryz.f4 Rows.exprCongruenceSpec Rows.exprCongruenceUptoRow.laid [27,27,27] Tryz.params4 (by exact goods) (by kernel_rfl) rfl (fun _ ds h=>match ds,h with|[_,_,_],_=>rfl) (fun _=>tb_laid) law_holds
  H enc W base args ds gs before hval hW (of_decide_eq_true (hcond _ rfl)) hL

theorem notMain : ¬ Check.packageOf Tryz.f4.name = "main" := by decide +kernel
set_option maxHeartbeats 0 in
theorem facts:joinedFacts Tryz.pinned.checked.prog 4 Tryz.f4 (Rows.OpenSpec.upto Rows.exprCongruenceSpec).bare Rows.exprCongruenceUptoRow=true:=by
 unfold joinedFacts;simp only[bKr]
 and_intros<;>decide +kernel
theorem named:Tryz.pinned.checked.prog.funcNamed Rows.exprCongruenceUptoRow.func=some 4:=by kernel_rfl
theorem inst:Tryz.f4.isInstance Tryz.pinned.checked.prog Rows.exprCongruenceUptoRow.origin Rows.exprCongruenceUptoRow.targs:=of_decide_eq_true (by kernel_rfl)
theorem wrapper:Tryz.f4.isWrapper Tryz.pinned.checked.prog Rows.exprCongruenceUptoRow.wrapper Rows.exprCongruenceUptoRow.mainSum:=by
 unfold Func.isWrapper;rw[if_neg notMain];exact⟨rfl,rfl⟩
theorem saidUpto:Rows.ExprCongruenceUptoSaid:=
 OpenClaim.holds_of_cond 4 Tryz.f4 rfl rfl rfl rfl rfl rfl rfl ⟨rfl,rfl,rfl,rfl,rfl⟩ rfl rfl rfl rfl rfl named Tryz.func4 facts inst wrapper
  (fun os started H enc _ F=>by rw[OpenClaim.pre_eq_preRow];exact liftedUpto os started H enc F)

theorem plain(f : FuncId)(fn : Func)(hf : Tryz.pinned.checked.prog.funcNamed "inequality/inequalitylaw04.ExprCongruence" = some f)(hfn : Tryz.pinned.checked.prog.funcs[f]? = some fn) :
  true=Tryz.pinned.checked.prog.looks []/\∀(j:Nat) t,fn.params[j]?=some t->Tryz.pinned.checked.prog.wantsStandIn t=false:=by
 obtain rfl : f = 4 := Option.some.inj ((show Tryz.prog.funcNamed "inequality/inequalitylaw04.ExprCongruence" = some 4 by kernel_rfl).symm.trans hf) |>.symm
 obtain rfl:fn=Tryz.f4:=(Option.some.inj (Tryz.func4.symm.trans hfn)).symm;refine⟨by kernel_rfl,fun j t ht=>?_⟩
 rw[Tryz.params4] at ht;have h1:=Array.mem_of_getElem? ht;simp at h1;obtain rfl:=h1;exact (show Tryz.prog.wantsStandIn 27=false by kernel_rfl)

theorem text:Rows.exprCongruenceUptoRow.wfByText (Rows.OpenSpec.upto Rows.exprCongruenceSpec)=true:=by kernel_rfl
theorem main:Tryz.pinned.checked.prog.mainIs=some (Rows.exprCongruenceUptoCard.stood.harness.1,Rows.exprCongruenceUptoCard.stood.harness.2.toList):=by kernel_rfl
theorem goes:false=Rows.exprCongruenceUptoRow.goesBy Tryz.pinned.checked.prog:=by kernel_rfl
theorem cardUpto:Rows.ExprCongruenceUptoCardSaid:=
 Claim7.holds_tied_plain_at .later [] _ _ _ _ saidUpto (fun _ h=>by cases h) text (fun _ h=>by cases h) exprCongruenceUpto_row_tie rfl ⟨rfl,rfl⟩ main rfl plain goes
end Go.Proofs.YtblecjeceecaaaaGreatDoor