/- ExprBranchEnds: the card. -/
import Derived.Test.YtchcjbbnkcodjaaGreatDoorFrT
import Derived.Test.YtchcjbbnkcodjaaGreatDoorE51
set_option linter.unusedVariables false
set_option linter.unusedSimpArgs false
namespace Go.Proofs.YtchcjbbnkcodjaaGreatDoor
open Go Go.Vc Go.Dig Go.ChangeShapes Go.WideShapes Go.ChangeAt Go.RowKit

def zeros : Array Value := #[zeroExpr]
set_option maxRecDepth 20000 in
theorem tb_laid {W : World} (h : laidMetH Tryz.prog Rows.exprBranchEndsUptoRow.laid W) : Tbs (heapOf W) :=
  tbs_laid (l := Rows.exprBranchEndsUptoRow.laid) (by kernel_rfl) (by kernel_rfl) h
theorem laid_met (os : Os) : laidMet Tryz.prog Rows.exprBranchEndsUptoRow.laid ((laidWorldE Rows.exprBranchEndsUptoRow.laid os).forCall (fun _ _ => 0) ⟨#[], zeros, []⟩).memory :=
  laidMet_of_run' 8 (by kernel_rfl) (by kernel_rfl)
theorem reads (os : Os) {H : Type} (enc : TypeId × Value → H) : ∃ places, DataW.whole enc Tryz.prog ((laidWorldE Rows.exprBranchEndsUptoRow.laid os).forCall (fun _ _ => 0) ⟨#[], zeros, []⟩).memory Tryz.f12.params.toList Rows.exprBranchEndsSpec.vars false zeros.toList 8 = some ([zdE], [], places) :=
  ⟨[], by kernel_rfl⟩
set_option maxRecDepth 20000 in
theorem law_holds (h : Heap) (vs : List Value) (tb : Tbs h) (hl : vs.length = ([28] : List TypeId).length) (hin : ∀ (j : Nat) t v, ([28] : List TypeId)[j]? = some t → vs[j]? = some v → In h t v) : Fn0 T 12 vs h fun v _ => v = .bool true := by
  match vs, hl with
  | [v1], _ =>
    obtain ⟨w1, t1, rfl, i1⟩ := (hin 0 _ _ rfl rfl).tree rfl
    exact BranchEnds_law h tb.tb tb.pw t1 w1 i1

theorem goods : ∀ t ∈ ([28] : List TypeId), t < Tryz.prog.types.size := by decide +kernel

set_option maxRecDepth 100000 in
theorem liftedUpto (os : Os) (started : os.Started) (H : Type) (enc : TypeId × Value → H) (F : Stop.Interp) :
    ReturnsInHanded {} Tryz.checked os 12 .any ((Rows.OpenSpec.upto Rows.exprBranchEndsSpec).preRow enc Tryz.prog Tryz.f12 Rows.exprBranchEndsUptoRow.domain false Rows.exprBranchEndsUptoRow.laid) (((Rows.OpenSpec.upto Rows.exprBranchEndsSpec).at F).post enc Tryz.prog Tryz.f12 false true false false) := by
  obtain ⟨places, hx⟩ := reads os enc
  refine returnsInHanded_of_row (C := Tryz.checked) (s := Rows.OpenSpec.upto Rows.exprBranchEndsSpec) own started (by kernel_rfl) Tryz.func12
    (witness_row_at (enc := enc) (C := Tryz.checked) false (laidWorldE Rows.exprBranchEndsUptoRow.laid os) zeros rfl (by kernel_rfl) (by kernel_rfl) (by kernel_rfl)
      (OpenSpec.preRow_of_cond 8 hx (by kernel_rfl) (fun k hk => by cases hk; kernel_rfl) (by kernel_rfl) (laid_met os))) ?_
  intro W base args ds gs before hval hW _ hcond _ hL _ _
  exact law_contractT 12 Tryz.f12 Rows.exprBranchEndsSpec Rows.exprBranchEndsUptoRow.laid [28] Tryz.params12 (by exact goods) (by kernel_rfl) rfl (fun _ ds h => match ds, h with | [_], _ => rfl) (fun _ => tb_laid) law_holds
    H enc W base args ds gs before hval hW (of_decide_eq_true (hcond _ rfl)) hL

theorem notMain : ¬ Check.packageOf Tryz.f12.name = "main" := by decide +kernel
set_option maxHeartbeats 0 in
theorem facts : joinedFacts Tryz.pinned.checked.prog 12 Tryz.f12 (Rows.OpenSpec.upto Rows.exprBranchEndsSpec).bare Rows.exprBranchEndsUptoRow = true := by
  unfold joinedFacts
  simp only [Bool.and_eq_true]
  and_intros <;> decide +kernel
theorem named : Tryz.pinned.checked.prog.funcNamed Rows.exprBranchEndsUptoRow.func = some 12 := by kernel_rfl
theorem inst : Tryz.f12.isInstance Tryz.pinned.checked.prog Rows.exprBranchEndsUptoRow.origin Rows.exprBranchEndsUptoRow.targs := of_decide_eq_true (by kernel_rfl)
theorem wrapper : Tryz.f12.isWrapper Tryz.pinned.checked.prog Rows.exprBranchEndsUptoRow.wrapper Rows.exprBranchEndsUptoRow.mainSum := by
  unfold Func.isWrapper
  rw [if_neg notMain]
  exact ⟨rfl, rfl⟩
theorem saidUpto : Rows.ExprBranchEndsUptoSaid :=
  OpenClaim.holds_of_cond 12 Tryz.f12 rfl rfl rfl rfl rfl rfl rfl ⟨rfl, rfl, rfl, rfl, rfl⟩ rfl rfl rfl rfl rfl named Tryz.func12 facts inst wrapper
    (fun os started H enc _ F => by rw [OpenClaim.pre_eq_preRow]; exact liftedUpto os started H enc F)

theorem plain (f : FuncId) (fn : Func) (hf : Tryz.pinned.checked.prog.funcNamed "inequality/inequalitylaw04.ExprBranchEnds" = some f) (hfn : Tryz.pinned.checked.prog.funcs[f]? = some fn) :
    true = Tryz.pinned.checked.prog.looks [] ∧ ∀ (j : Nat) t, fn.params[j]? = some t → Tryz.pinned.checked.prog.wantsStandIn t = false := by
  obtain rfl : f = 12 := Option.some.inj ((show Tryz.prog.funcNamed "inequality/inequalitylaw04.ExprBranchEnds" = some 12 by kernel_rfl).symm.trans hf) |>.symm
  obtain rfl : fn = Tryz.f12 := (Option.some.inj (Tryz.func12.symm.trans hfn)).symm
  refine ⟨by kernel_rfl, fun j t ht => ?_⟩
  rw [Tryz.params12] at ht
  have h1 := Array.mem_of_getElem? ht
  simp at h1
  obtain rfl := h1
  exact (show Tryz.prog.wantsStandIn 28 = false by kernel_rfl)

theorem text : Rows.exprBranchEndsUptoRow.wfByText (Rows.OpenSpec.upto Rows.exprBranchEndsSpec) = true := by kernel_rfl
theorem main : Tryz.pinned.checked.prog.mainIs = some (Rows.exprBranchEndsUptoCard.stood.harness.1, Rows.exprBranchEndsUptoCard.stood.harness.2.toList) := by kernel_rfl
theorem goes : false = Rows.exprBranchEndsUptoRow.goesBy Tryz.pinned.checked.prog := by kernel_rfl
theorem cardUpto : Rows.ExprBranchEndsUptoCardSaid :=
  Claim7.holds_tied_plain_at .later [] _ _ _ _ saidUpto (fun _ h => by cases h) text (fun _ h => by cases h) exprBranchEndsUpto_row_tie rfl ⟨rfl, rfl⟩ main rfl plain goes
end Go.Proofs.YtchcjbbnkcodjaaGreatDoor