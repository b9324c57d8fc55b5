/- ExprPeriodicParts: the card. -/
import Derived.Test.YtchcjbbnkcodjaaGreatDoorFrT
import Derived.Test.YtchcjbbnkcodjaaGreatDoorE45
set_option linter.unusedVariables false
set_option linter.unusedSimpArgs false
namespace Go.Proofs.YtchcjbbnkcodjaaGreatDoor
open Go Go.Vc Go.Dig Go.ChangeShapes Go.WideShapes Go.ChangeAt Go.RowKit

def zeros : Array Value := #[zeroExpr, zeroExpr, .string ByteArray.empty]
set_option maxRecDepth 20000 in
theorem tb_laid {W : World} (h : laidMetH Tryz.prog Rows.exprPeriodicPartsUptoRow.laid W) : Tbs (heapOf W) :=
  tbs_laid (l := Rows.exprPeriodicPartsUptoRow.laid) (by kernel_rfl) (by kernel_rfl) h
theorem laid_met (os : Os) : laidMet Tryz.prog Rows.exprPeriodicPartsUptoRow.laid ((laidWorldE Rows.exprPeriodicPartsUptoRow.laid os).forCall (fun _ _ => 0) ⟨#[], zeros, []⟩).memory :=
  laidMet_of_run' 8 (by kernel_rfl) (by kernel_rfl)
theorem reads (os : Os) {H : Type} (enc : TypeId × Value → H) : ∃ places, DataW.whole enc Tryz.prog ((laidWorldE Rows.exprPeriodicPartsUptoRow.laid os).forCall (fun _ _ => 0) ⟨#[], zeros, []⟩).memory Tryz.f14.params.toList Rows.exprPeriodicPartsSpec.vars false zeros.toList 8 = some ([zdE, zdE, .lit (.string [])], [], places) :=
  ⟨[], by kernel_rfl⟩
set_option maxRecDepth 20000 in
theorem law_holds (h : Heap) (vs : List Value) (tb : Tbs h) (hl : vs.length = ([28, 28, 9] : List TypeId).length) (hin : ∀ (j : Nat) t v, ([28, 28, 9] : List TypeId)[j]? = some t → vs[j]? = some v → In h t v) : Fn0 T 14 vs h fun v _ => v = .bool true := by
  match vs, hl with
  | [v1, v2, v3], _ =>
    obtain ⟨w1, t1, rfl, i1⟩ := (hin 0 _ _ rfl rfl).tree rfl
    obtain ⟨w2, t2, rfl, i2⟩ := (hin 1 _ _ rfl rfl).tree rfl
    obtain ⟨s3, rfl, hs3⟩ := (hin 2 _ _ rfl rfl).str rfl
    exact PeriodicParts_law h tb.tb tb.pw t1 w1 i1 t2 w2 i2 s3 hs3

theorem goods : ∀ t ∈ ([28, 28, 9] : List TypeId), t < Tryz.prog.types.size := by decide +kernel

set_option maxRecDepth 100000 in
theorem liftedUpto (os : Os) (started : os.Started) (H : Type) (enc : TypeId × Value → H) (F : Stop.Interp) :
    ReturnsInHanded {} Tryz.checked os 14 .any ((Rows.OpenSpec.upto Rows.exprPeriodicPartsSpec).preRow enc Tryz.prog Tryz.f14 Rows.exprPeriodicPartsUptoRow.domain false Rows.exprPeriodicPartsUptoRow.laid) (((Rows.OpenSpec.upto Rows.exprPeriodicPartsSpec).at F).post enc Tryz.prog Tryz.f14 false true false false) := by
  obtain ⟨places, hx⟩ := reads os enc
  refine returnsInHanded_of_row (C := Tryz.checked) (s := Rows.OpenSpec.upto Rows.exprPeriodicPartsSpec) own started (by kernel_rfl) Tryz.func14
    (witness_row_at (enc := enc) (C := Tryz.checked) false (laidWorldE Rows.exprPeriodicPartsUptoRow.laid os) zeros rfl (by kernel_rfl) (by kernel_rfl) (by kernel_rfl)
      (OpenSpec.preRow_of_cond 8 hx (by kernel_rfl) (fun k hk => by cases hk; kernel_rfl) (by kernel_rfl) (laid_met os))) ?_
  intro W base args ds gs before hval hW _ hcond _ hL _ _
  exact law_contractT 14 Tryz.f14 Rows.exprPeriodicPartsSpec Rows.exprPeriodicPartsUptoRow.laid [28, 28, 9] Tryz.params14 (by exact goods) (by kernel_rfl) rfl (fun _ ds h => match ds, h with | [_, _, _], _ => rfl) (fun _ => tb_laid) law_holds
    H enc W base args ds gs before hval hW (of_decide_eq_true (hcond _ rfl)) hL

theorem notMain : ¬ Check.packageOf Tryz.f14.name = "main" := by decide +kernel
set_option maxHeartbeats 0 in
theorem facts : joinedFacts Tryz.pinned.checked.prog 14 Tryz.f14 (Rows.OpenSpec.upto Rows.exprPeriodicPartsSpec).bare Rows.exprPeriodicPartsUptoRow = true := by
  unfold joinedFacts
  simp only [Bool.and_eq_true]
  and_intros <;> decide +kernel
theorem named : Tryz.pinned.checked.prog.funcNamed Rows.exprPeriodicPartsUptoRow.func = some 14 := by kernel_rfl
theorem inst : Tryz.f14.isInstance Tryz.pinned.checked.prog Rows.exprPeriodicPartsUptoRow.origin Rows.exprPeriodicPartsUptoRow.targs := of_decide_eq_true (by kernel_rfl)
theorem wrapper : Tryz.f14.isWrapper Tryz.pinned.checked.prog Rows.exprPeriodicPartsUptoRow.wrapper Rows.exprPeriodicPartsUptoRow.mainSum := by
  unfold Func.isWrapper
  rw [if_neg notMain]
  exact ⟨rfl, rfl⟩
theorem saidUpto : Rows.ExprPeriodicPartsUptoSaid :=
  OpenClaim.holds_of_cond 14 Tryz.f14 rfl rfl rfl rfl rfl rfl rfl ⟨rfl, rfl, rfl, rfl, rfl⟩ rfl rfl rfl rfl rfl named Tryz.func14 facts inst wrapper
    (fun os started H enc _ F => by rw [OpenClaim.pre_eq_preRow]; exact liftedUpto os started H enc F)

theorem plain (f : FuncId) (fn : Func) (hf : Tryz.pinned.checked.prog.funcNamed "inequality/inequalitylaw04.ExprPeriodicParts" = some f) (hfn : Tryz.pinned.checked.prog.funcs[f]? = some fn) :
    true = Tryz.pinned.checked.prog.looks [] ∧ ∀ (j : Nat) t, fn.params[j]? = some t → Tryz.pinned.checked.prog.wantsStandIn t = false := by
  obtain rfl : f = 14 := Option.some.inj ((show Tryz.prog.funcNamed "inequality/inequalitylaw04.ExprPeriodicParts" = some 14 by kernel_rfl).symm.trans hf) |>.symm
  obtain rfl : fn = Tryz.f14 := (Option.some.inj (Tryz.func14.symm.trans hfn)).symm
  refine ⟨by kernel_rfl, fun j t ht => ?_⟩
  rw [Tryz.params14] at ht
  have h1 := Array.mem_of_getElem? ht
  simp at h1
  rcases h1 with rfl | rfl
  · exact (show Tryz.prog.wantsStandIn 28 = false by kernel_rfl)
  · exact (show Tryz.prog.wantsStandIn 9 = false by kernel_rfl)

theorem text : Rows.exprPeriodicPartsUptoRow.wfByText (Rows.OpenSpec.upto Rows.exprPeriodicPartsSpec) = true := by kernel_rfl
theorem main : Tryz.pinned.checked.prog.mainIs = some (Rows.exprPeriodicPartsUptoCard.stood.harness.1, Rows.exprPeriodicPartsUptoCard.stood.harness.2.toList) := by kernel_rfl
theorem goes : false = Rows.exprPeriodicPartsUptoRow.goesBy Tryz.pinned.checked.prog := by kernel_rfl
theorem cardUpto : Rows.ExprPeriodicPartsUptoCardSaid :=
  Claim7.holds_tied_plain_at .later [] _ _ _ _ saidUpto (fun _ h => by cases h) text (fun _ h => by cases h) exprPeriodicPartsUpto_row_tie rfl ⟨rfl, rfl⟩ main rfl plain goes
end Go.Proofs.YtchcjbbnkcodjaaGreatDoor