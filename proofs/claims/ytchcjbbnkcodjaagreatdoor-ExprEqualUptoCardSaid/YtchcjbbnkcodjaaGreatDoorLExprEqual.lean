/- ExprEqual: the card. -/
import Derived.Test.YtchcjbbnkcodjaaGreatDoorFrT
import Derived.Test.YtchcjbbnkcodjaaGreatDoorE32
set_option linter.unusedVariables false
set_option linter.unusedSimpArgs false
namespace Go.Proofs.YtchcjbbnkcodjaaGreatDoor
open Go Go.Vc Go.Dig Go.ChangeShapes Go.WideShapes Go.ChangeAt Go.RowKit

def zeros : Array Value := #[zeroExpr, zeroExpr]
set_option maxRecDepth 20000 in
theorem tb_laid {W : World} (h : laidMetH Tryz.prog Rows.exprEqualUptoRow.laid W) : Tbs (heapOf W) :=
  tbs_laid (l := Rows.exprEqualUptoRow.laid) (by kernel_rfl) (by kernel_rfl) h
theorem laid_met (os : Os) : laidMet Tryz.prog Rows.exprEqualUptoRow.laid ((laidWorldE Rows.exprEqualUptoRow.laid os).forCall (fun _ _ => 0) ⟨#[], zeros, []⟩).memory :=
  laidMet_of_run' 8 (by kernel_rfl) (by kernel_rfl)
theorem reads (os : Os) {H : Type} (enc : TypeId × Value → H) : ∃ places, DataW.whole enc Tryz.prog ((laidWorldE Rows.exprEqualUptoRow.laid os).forCall (fun _ _ => 0) ⟨#[], zeros, []⟩).memory Tryz.f9.params.toList Rows.exprEqualSpec.vars false zeros.toList 8 = some ([zdE, zdE], [], places) :=
  ⟨[], by kernel_rfl⟩
set_option maxRecDepth 20000 in
theorem law_holds (h : Heap) (vs : List Value) (tb : Tbs h) (hl : vs.length = ([28, 28] : List TypeId).length) (hin : ∀ (j : Nat) t v, ([28, 28] : List TypeId)[j]? = some t → vs[j]? = some v → In h t v) : Fn0 T 9 vs h fun v _ => v = .bool true := by
  match vs, hl with
  | [v1, v2], _ =>
    obtain ⟨w1, t1, rfl, i1⟩ := (hin 0 _ _ rfl rfl).tree rfl
    obtain ⟨w2, t2, rfl, i2⟩ := (hin 1 _ _ rfl rfl).tree rfl
    exact XEqual_law h tb.tb tb.pw t1 w1 i1 t2 w2 i2

theorem goods : ∀ t ∈ ([28, 28] : List TypeId), t < Tryz.prog.types.size := by decide +kernel

set_option maxRecDepth 100000 in
theorem liftedUpto (os : Os) (started : os.Started) (H : Type) (enc : TypeId × Value → H) (F : Stop.Interp) :
    ReturnsInHanded {} Tryz.checked os 9 .any ((Rows.OpenSpec.upto Rows.exprEqualSpec).preRow enc Tryz.prog Tryz.f9 Rows.exprEqualUptoRow.domain false Rows.exprEqualUptoRow.laid) (((Rows.OpenSpec.upto Rows.exprEqualSpec).at F).post enc Tryz.prog Tryz.f9 false true false false) := by
  obtain ⟨places, hx⟩ := reads os enc
  refine returnsInHanded_of_row (C := Tryz.checked) (s := Rows.OpenSpec.upto Rows.exprEqualSpec) own started (by kernel_rfl) Tryz.func9
    (witness_row_at (enc := enc) (C := Tryz.checked) false (laidWorldE Rows.exprEqualUptoRow.laid os) zeros rfl (by kernel_rfl) (by kernel_rfl) (by kernel_rfl)
      (OpenSpec.preRow_of_cond 8 hx (by kernel_rfl) (fun k hk => by cases hk; kernel_rfl) (by kernel_rfl) (laid_met os))) ?_
  intro W base args ds gs before hval hW _ hcond _ hL _ _
  exact law_contractT 9 Tryz.f9 Rows.exprEqualSpec Rows.exprEqualUptoRow.laid [28, 28] Tryz.params9 (by exact goods) (by kernel_rfl) rfl (fun _ ds h => match ds, h with | [_, _], _ => rfl) (fun _ => tb_laid) law_holds
    H enc W base args ds gs before hval hW (of_decide_eq_true (hcond _ rfl)) hL

theorem notMain : ¬ Check.packageOf Tryz.f9.name = "main" := by decide +kernel
set_option maxHeartbeats 0 in
theorem facts : joinedFacts Tryz.pinned.checked.prog 9 Tryz.f9 (Rows.OpenSpec.upto Rows.exprEqualSpec).bare Rows.exprEqualUptoRow = true := by
  unfold joinedFacts
  simp only [Bool.and_eq_true]
  and_intros <;> decide +kernel
theorem named : Tryz.pinned.checked.prog.funcNamed Rows.exprEqualUptoRow.func = some 9 := by kernel_rfl
theorem inst : Tryz.f9.isInstance Tryz.pinned.checked.prog Rows.exprEqualUptoRow.origin Rows.exprEqualUptoRow.targs := of_decide_eq_true (by kernel_rfl)
theorem wrapper : Tryz.f9.isWrapper Tryz.pinned.checked.prog Rows.exprEqualUptoRow.wrapper Rows.exprEqualUptoRow.mainSum := by
  unfold Func.isWrapper
  rw [if_neg notMain]
  exact ⟨rfl, rfl⟩
theorem saidUpto : Rows.ExprEqualUptoSaid :=
  OpenClaim.holds_of_cond 9 Tryz.f9 rfl rfl rfl rfl rfl rfl rfl ⟨rfl, rfl, rfl, rfl, rfl⟩ rfl rfl rfl rfl rfl named Tryz.func9 facts inst wrapper
    (fun os started H enc _ F => by rw [OpenClaim.pre_eq_preRow]; exact liftedUpto os started H enc F)

theorem plain (f : FuncId) (fn : Func) (hf : Tryz.pinned.checked.prog.funcNamed "inequality/inequalitylaw04.ExprEqual" = some f) (hfn : Tryz.pinned.checked.prog.funcs[f]? = some fn) :
    true = Tryz.pinned.checked.prog.looks [] ∧ ∀ (j : Nat) t, fn.params[j]? = some t → Tryz.pinned.checked.prog.wantsStandIn t = false := by
  obtain rfl : f = 9 := Option.some.inj ((show Tryz.prog.funcNamed "inequality/inequalitylaw04.ExprEqual" = some 9 by kernel_rfl).symm.trans hf) |>.symm
  obtain rfl : fn = Tryz.f9 := (Option.some.inj (Tryz.func9.symm.trans hfn)).symm
  refine ⟨by kernel_rfl, fun j t ht => ?_⟩
  rw [Tryz.params9] at ht
  have h1 := Array.mem_of_getElem? ht
  simp at h1
  obtain rfl := h1
  exact (show Tryz.prog.wantsStandIn 28 = false by kernel_rfl)

theorem text : Rows.exprEqualUptoRow.wfByText (Rows.OpenSpec.upto Rows.exprEqualSpec) = true := by kernel_rfl
theorem main : Tryz.pinned.checked.prog.mainIs = some (Rows.exprEqualUptoCard.stood.harness.1, Rows.exprEqualUptoCard.stood.harness.2.toList) := by kernel_rfl
theorem goes : false = Rows.exprEqualUptoRow.goesBy Tryz.pinned.checked.prog := by kernel_rfl
theorem cardUpto : Rows.ExprEqualUptoCardSaid :=
  Claim7.holds_tied_plain_at .later [] _ _ _ _ saidUpto (fun _ h => by cases h) text (fun _ h => by cases h) exprEqualUpto_row_tie rfl ⟨rfl, rfl⟩ main rfl plain goes
end Go.Proofs.YtchcjbbnkcodjaaGreatDoor
