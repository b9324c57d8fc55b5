/- ExprBranch: the card. -/
import Derived.Test.YtchcjbbnkcodjaaGreatDoorFrT
import Derived.Test.YtchcjbbnkcodjaaGreatDoorE51
set_option linter.unusedVariables false
set_option linter.unusedSimpArgs false
namespace Go.Proofs.YtchcjbbnkcodjaaGreatDoor
open Go Go.Vc Go.Dig Go.ChangeShapes Go.WideShapes Go.ChangeAt Go.RowKit

def zeros : Array Value := #[zeroExpr]
set_option maxRecDepth 20000 in
theorem tb_laid {W : World} (h : laidMetH Tryz.prog Rows.exprBranchUptoRow.laid W) : Tbs (heapOf W) :=
  tbs_laid (l := Rows.exprBranchUptoRow.laid) (by kernel_rfl) (by kernel_rfl) h
theorem laid_met (os : Os) : laidMet Tryz.prog Rows.exprBranchUptoRow.laid ((laidWorldE Rows.exprBranchUptoRow.laid os).forCall (fun _ _ => 0) ⟨#[], zeros, []⟩).memory :=
  laidMet_of_run' 8 (by kernel_rfl) (by kernel_rfl)
theorem reads (os : Os) {H : Type} (enc : TypeId × Value → H) : ∃ places, DataW.whole enc Tryz.prog ((laidWorldE Rows.exprBranchUptoRow.laid os).forCall (fun _ _ => 0) ⟨#[], zeros, []⟩).memory Tryz.f11.params.toList Rows.exprBranchSpec.vars false zeros.toList 8 = some ([zdE], [], places) :=
  ⟨[], by kernel_rfl⟩
set_option maxRecDepth 20000 in
theorem law_holds (h : Heap) (vs : List Value) (tb : Tbs h) (hl : vs.length = ([28] : List TypeId).length) (hin : ∀ (j : Nat) t v, ([28] : List TypeId)[j]? = some t → vs[j]? = some v → In h t v) : Fn0 T 11 vs h fun v _ => v = .bool true := by
  match vs, hl with
  | [v1], _ =>
    obtain ⟨w1, t1, rfl, i1⟩ := (hin 0 _ _ rfl rfl).tree rfl
    exact Branch_law h tb.tb tb.pw t1 w1 i1

theorem goods : ∀ t ∈ ([28] : List TypeId), t < Tryz.prog.types.size := by decide +kernel

set_option maxRecDepth 100000 in
theorem liftedUpto (os : Os) (started : os.Started) (H : Type) (enc : TypeId × Value → H) (F : Stop.Interp) :
    ReturnsInHanded {} Tryz.checked os 11 .any ((Rows.OpenSpec.upto Rows.exprBranchSpec).preRow enc Tryz.prog Tryz.f11 Rows.exprBranchUptoRow.domain false Rows.exprBranchUptoRow.laid) (((Rows.OpenSpec.upto Rows.exprBranchSpec).at F).post enc Tryz.prog Tryz.f11 false true false false) := by
  obtain ⟨places, hx⟩ := reads os enc
  refine returnsInHanded_of_row (C := Tryz.checked) (s := Rows.OpenSpec.upto Rows.exprBranchSpec) own started (by kernel_rfl) Tryz.func11
    (witness_row_at (enc := enc) (C := Tryz.checked) false (laidWorldE Rows.exprBranchUptoRow.laid os) zeros rfl (by kernel_rfl) (by kernel_rfl) (by kernel_rfl)
      (OpenSpec.preRow_of_cond 8 hx (by kernel_rfl) (fun k hk => by cases hk; kernel_rfl) (by kernel_rfl) (laid_met os))) ?_
  intro W base args ds gs before hval hW _ hcond _ hL _ _
  exact law_contractT 11 Tryz.f11 Rows.exprBranchSpec Rows.exprBranchUptoRow.laid [28] Tryz.params11 (by exact goods) (by kernel_rfl) rfl (fun _ ds h => match ds, h with | [_], _ => rfl) (fun _ => tb_laid) law_holds
    H enc W base args ds gs before hval hW (of_decide_eq_true (hcond _ rfl)) hL

theorem notMain : ¬ Check.packageOf Tryz.f11.name = "main" := by decide +kernel
set_option maxHeartbeats 0 in
theorem facts : joinedFacts Tryz.pinned.checked.prog 11 Tryz.f11 (Rows.OpenSpec.upto Rows.exprBranchSpec).bare Rows.exprBranchUptoRow = true := by
  unfold joinedFacts
  simp only [Bool.and_eq_true]
  and_intros <;> decide +kernel
theorem named : Tryz.pinned.checked.prog.funcNamed Rows.exprBranchUptoRow.func = some 11 := by kernel_rfl
theorem inst : Tryz.f11.isInstance Tryz.pinned.checked.prog Rows.exprBranchUptoRow.origin Rows.exprBranchUptoRow.targs := of_decide_eq_true (by kernel_rfl)
theorem wrapper : Tryz.f11.isWrapper Tryz.pinned.checked.prog Rows.exprBranchUptoRow.wrapper Rows.exprBranchUptoRow.mainSum := by
  unfold Func.isWrapper
  rw [if_neg notMain]
  exact ⟨rfl, rfl⟩
theorem saidUpto : Rows.ExprBranchUptoSaid :=
  OpenClaim.holds_of_cond 11 Tryz.f11 rfl rfl rfl rfl rfl rfl rfl ⟨rfl, rfl, rfl, rfl, rfl⟩ rfl rfl rfl rfl rfl named Tryz.func11 facts inst wrapper
    (fun os started H enc _ F => by rw [OpenClaim.pre_eq_preRow]; exact liftedUpto os started H enc F)

theorem plain (f : FuncId) (fn : Func) (hf : Tryz.pinned.checked.prog.funcNamed "inequality/inequalitylaw04.ExprBranch" = some f) (hfn : Tryz.pinned.checked.prog.funcs[f]? = some fn) :
    true = Tryz.pinned.checked.prog.looks [] ∧ ∀ (j : Nat) t, fn.params[j]? = some t → Tryz.pinned.checked.prog.wantsStandIn t = false := by
  obtain rfl : f = 11 := Option.some.inj ((show Tryz.prog.funcNamed "inequality/inequalitylaw04.ExprBranch" = some 11 by kernel_rfl).symm.trans hf) |>.symm
  obtain rfl : fn = Tryz.f11 := (Option.some.inj (Tryz.func11.symm.trans hfn)).symm
  refine ⟨by kernel_rfl, fun j t ht => ?_⟩
  rw [Tryz.params11] at ht
  have h1 := Array.mem_of_getElem? ht
  simp at h1
  obtain rfl := h1
  exact (show Tryz.prog.wantsStandIn 28 = false by kernel_rfl)

theorem text : Rows.exprBranchUptoRow.wfByText (Rows.OpenSpec.upto Rows.exprBranchSpec) = true := by kernel_rfl
theorem main : Tryz.pinned.checked.prog.mainIs = some (Rows.exprBranchUptoCard.stood.harness.1, Rows.exprBranchUptoCard.stood.harness.2.toList) := by kernel_rfl
theorem goes : false = Rows.exprBranchUptoRow.goesBy Tryz.pinned.checked.prog := by kernel_rfl
theorem cardUpto : Rows.ExprBranchUptoCardSaid :=
  Claim7.holds_tied_plain_at .later [] _ _ _ _ saidUpto (fun _ h => by cases h) text (fun _ h => by cases h) exprBranchUpto_row_tie rfl ⟨rfl, rfl⟩ main rfl plain goes
end Go.Proofs.YtchcjbbnkcodjaaGreatDoor