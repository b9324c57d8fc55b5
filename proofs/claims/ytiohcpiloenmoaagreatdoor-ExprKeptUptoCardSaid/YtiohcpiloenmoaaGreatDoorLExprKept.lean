/- ExprKept: the card. -/
import Derived.Test.YtiohcpiloenmoaaGreatDoorPK3
set_option linter.all false
set_option maxRecDepth 100000
namespace Go.Proofs.YtiohcpiloenmoaaGreatDoor
open Go Go.Proofs.Y Go.Vc Go.Dig Go.ChangeShapes Go.WideShapes Go.ChangeAt Go.RowKit
theorem zK4{p:Prop}(h:p:=by kernel_rfl):p:=h
abbrev zR4:=Rows.exprKeptUptoRow
abbrev zS4:=Rows.exprKeptSpec
noncomputable abbrev zP4:=Tryz.pinned.checked.prog
def zeros:Array Value:=#[aOr,.slice none 0 0]
theorem tb_laid{W:World}(h:laidMetH Tryz.prog zR4.laid W):Tbs (eO W):=
 aOn (l:=zR4.laid) zK4 zK4 h
theorem laid_met(os:Os):laidMet Tryz.prog zR4.laid ((laidWorldE zR4.laid os).forCall (fun _ _=>0) ⟨#[],zeros,[]⟩).memory:=
 laidMet_of_run' 8 zK4 zK4
theorem reads(os:Os){H:Type}(enc:TypeId × Value->H):∃places,DataW.whole enc Tryz.prog ((laidWorldE zR4.laid os).forCall (fun _ _=>0) ⟨#[],zeros,[]⟩).memory Tryz.f3.params.toList zS4.vars false zeros.toList 8=some ([zdE,.nil],[],places):=
 ⟨[],by kernel_rfl⟩
theorem law_holds(h:aA)(vs:List Value)(tb:Tbs h)(hl:vs.length=([27,28]:List TypeId).length)(hin:∀(j:Nat) t v,([27,28]:List TypeId)[j]?=some t->vs[j]?=some v->In h t v):Fn0 T 3 vs h fun v _=>v=.bool true:=by
 match vs,hl with
 | [v1,v2],_=>
  obtain⟨w1,t1,rfl,i1⟩:=(hin 0 _ _ rfl rfl).tree rfl;obtain⟨s2,b2,rfl,w2,l2⟩:=aCz (hin 1 _ _ rfl rfl);exact aQ0 h tb.tb tb.pw t1 w1 i1 s2 b2 w2 (aZr l2 Ag)
theorem goods:∀t∈([27,28]:List TypeId),t<Tryz.prog.types.size:=by decide +kernel
theorem liftedUpto(os:Os)(started:os.Started)(H:Type)(enc:TypeId × Value->H)(F:Stop.Interp):
  ReturnsInHanded {} Tryz.checked os 3 .any ((Rows.OpenSpec.upto zS4).preRow enc Tryz.prog Tryz.f3 zR4.domain false zR4.laid) (((Rows.OpenSpec.upto zS4).at F).post enc Tryz.prog Tryz.f3 false true false false):=by
 obtain⟨places,hx⟩:=reads os enc;refine returnsInHanded_of_row (C:=Tryz.checked) (s:=Rows.OpenSpec.upto zS4) own started zK4 Tryz.func3
  (witness_row_at (enc:=enc) (C:=Tryz.checked) false (laidWorldE zR4.laid os) zeros rfl zK4 zK4 zK4
    (OpenSpec.preRow_of_cond 8 hx zK4 (fun k hk=>by cases hk;kernel_rfl) zK4 (laid_met os))) ?_
 intro W base args ds gs before hval hW _ hcond _ hL _ _;exact yV 3 Tryz.f3 zS4 zR4.laid [27,28] Tryz.params3 (by exact goods) zK4 rfl (fun _ ds h=>match ds,h with|[_,_],_=>rfl) (fun _=>tb_laid) law_holds
  H enc W base args ds gs before hval hW (of_decide_eq_true (hcond _ rfl)) hL
theorem notMain : ¬ Check.packageOf Tryz.f3.name = "main" := by decide +kernel
set_option maxHeartbeats 0 in
theorem facts:joinedFacts zP4 3 Tryz.f3 (Rows.OpenSpec.upto zS4).bare zR4=true:=by
 unfold joinedFacts;simp only[bBa]
 and_intros<;>decide +kernel
theorem named:zP4.funcNamed zR4.func=some 3:=by kernel_rfl
theorem inst:Tryz.f3.isInstance zP4 zR4.origin zR4.targs:=of_decide_eq_true zK4
theorem wrapper:Tryz.f3.isWrapper zP4 zR4.wrapper zR4.mainSum:=by
 unfold Func.isWrapper;rw[if_neg notMain];exact⟨rfl,rfl⟩
theorem saidUpto:Rows.ExprKeptUptoSaid:=
 OpenClaim.holds_of_cond 3 Tryz.f3 rfl rfl rfl rfl rfl rfl rfl ⟨rfl,rfl,rfl,rfl,rfl⟩ rfl rfl rfl rfl rfl named Tryz.func3 facts inst wrapper
  (fun os started H enc _ F=>by rw[OpenClaim.pre_eq_preRow];exact liftedUpto os started H enc F)
theorem plain(f : FuncId)(fn : Func)(hf : zP4.funcNamed "inequality/inequalitylaw04.ExprKept" = some f)(hfn : zP4.funcs[f]? = some fn) :
  true=zP4.looks []/\∀(j:Nat) t,fn.params[j]?=some t->zP4.wantsStandIn t=false:=by
 obtain rfl : f = 3 := Option.some.inj ((show Tryz.prog.funcNamed "inequality/inequalitylaw04.ExprKept" = some 3 by kernel_rfl).symm.trans hf) |>.symm
 obtain rfl:fn=Tryz.f3:=(Option.some.inj (Tryz.func3.symm.trans hfn)).symm;refine⟨by kernel_rfl,fun j t ht=>?_⟩
 rw[Tryz.params3] at ht;have h1:=Array.mem_of_getElem? ht;simp at h1;rcases h1 with rfl|rfl
 .exact (show Tryz.prog.wantsStandIn 27=false by kernel_rfl)
 .exact (show Tryz.prog.wantsStandIn 28=false by kernel_rfl)
theorem text:zR4.wfByText (Rows.OpenSpec.upto zS4)=true:=by kernel_rfl
theorem main:zP4.mainIs=some (Rows.exprKeptUptoCard.stood.harness.1,Rows.exprKeptUptoCard.stood.harness.2.toList):=by kernel_rfl
theorem goes:false=zR4.goesBy zP4:=by kernel_rfl
theorem cardUpto:Rows.ExprKeptUptoCardSaid:=
 Claim7.holds_tied_plain_at .later [] _ _ _ _ saidUpto (fun _ h=>by cases h) text (fun _ h=>by cases h) exprKeptUpto_row_tie rfl ⟨rfl,rfl⟩ main rfl plain goes
end Go.Proofs.YtiohcpiloenmoaaGreatDoor