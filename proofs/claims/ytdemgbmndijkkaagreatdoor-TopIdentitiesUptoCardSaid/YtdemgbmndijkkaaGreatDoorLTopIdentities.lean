/- TopIdentities: the card. -/
import Derived.Test.YtdemgbmndijkkaaGreatDoorFrS
import Derived.Test.YtdemgbmndijkkaaGreatDoorEL24
set_option linter.unusedVariables false
set_option linter.unusedSimpArgs false
namespace Go.Proofs.YtdemgbmndijkkaaGreatDoor
open Go Go.Vc Go.Dig Go.ChangeShapes Go.WideShapes Go.ChangeAt Go.RowKit

def zeros : Array Value := #[zeroTwice]
set_option maxRecDepth 20000 in
theorem tb_laid {W : World} (h : laidMetH Tryz.prog Rows.topIdentitiesUptoRow.laid W) : Tb (heapOf W) :=
  tb_of (Lib.tabIs_of_head (rest := []) gTab gTabType Tryz.underlying146 Tryz.underlying5 (by kernel_rfl) (by kernel_rfl) h)
theorem laid_met (os : Os) : laidMet Tryz.prog Rows.topIdentitiesUptoRow.laid ((laidWorld os).forCall (fun _ _ => 0) ⟨#[], zeros, []⟩).memory :=
  laidMet_of_run' 8 (by kernel_rfl) (by kernel_rfl)
theorem reads (os : Os) {H : Type} (enc : TypeId × Value → H) : ∃ places, DataW.whole enc Tryz.prog ((laidWorld os).forCall (fun _ _ => 0) ⟨#[], zeros, []⟩).memory Tryz.f3.params.toList Rows.topIdentitiesSpec.vars false zeros.toList 8 = some ([zdS], [], places) :=
  ⟨[], by kernel_rfl⟩
set_option maxRecDepth 20000 in
theorem law_holds (h : Heap) (vs : List Value) (tb : Tb h) (hl : vs.length = ([26] : List TypeId).length) (hin : ∀ (j : Nat) t v, ([26] : List TypeId)[j]? = some t → vs[j]? = some v → In h t v) : Fn0 T 3 vs h fun v _ => v = .bool true := by
  match vs, hl with
  | [v1], _ =>
    obtain ⟨n1, a1, b1, l1, m1, n2, a2, b2, l2, m2, p, q, rfl, ⟨w1, k1, j1⟩, ⟨w2, k2, j2⟩, -, -⟩ := open_twice (hin 0 _ _ rfl rfl)
    exact Twice_law h tb n1 a1 b1 l1 m1 n2 a2 b2 l2 m2 p q w1 k1 j1 w2 k2 j2

theorem goods : ∀ t ∈ ([26] : List TypeId), t < Tryz.prog.types.size := by decide +kernel

set_option maxRecDepth 100000 in
theorem liftedUpto (os : Os) (started : os.Started) (H : Type) (enc : TypeId × Value → H) (F : Stop.Interp) :
    ReturnsInHanded {} Tryz.checked os 3 .any ((Rows.OpenSpec.upto Rows.topIdentitiesSpec).preRow enc Tryz.prog Tryz.f3 Rows.topIdentitiesUptoRow.domain false Rows.topIdentitiesUptoRow.laid) (((Rows.OpenSpec.upto Rows.topIdentitiesSpec).at F).post enc Tryz.prog Tryz.f3 false true false false) := by
  obtain ⟨places, hx⟩ := reads os enc
  refine returnsInHanded_of_row (C := Tryz.checked) (s := Rows.OpenSpec.upto Rows.topIdentitiesSpec) own started (by kernel_rfl) Tryz.func3
    (witness_row_at (enc := enc) (C := Tryz.checked) false (laidWorld os) zeros rfl (by kernel_rfl) (by kernel_rfl) (by kernel_rfl)
      (OpenSpec.preRow_of_cond 8 hx (by kernel_rfl) (fun k hk => by cases hk; kernel_rfl) (by kernel_rfl) (laid_met os))) ?_
  intro W base args ds gs before hval hW _ hcond _ hL _ _
  exact law_contractS 3 Tryz.f3 Rows.topIdentitiesSpec Rows.topIdentitiesUptoRow.laid [26] Tryz.params3 (by exact goods) (by kernel_rfl) rfl (fun _ ds h => match ds, h with | [_], _ => rfl) (fun _ => tb_laid) law_holds
    H enc W base args ds gs before hval hW (of_decide_eq_true (hcond _ rfl)) hL

theorem notMain : ¬ Check.packageOf Tryz.f3.name = "main" := by decide +kernel
set_option maxHeartbeats 0 in
theorem facts : joinedFacts Tryz.pinned.checked.prog 3 Tryz.f3 (Rows.OpenSpec.upto Rows.topIdentitiesSpec).bare Rows.topIdentitiesUptoRow = true := by
  unfold joinedFacts
  simp only [Bool.and_eq_true]
  and_intros <;> decide +kernel
theorem named : Tryz.pinned.checked.prog.funcNamed Rows.topIdentitiesUptoRow.func = some 3 := by kernel_rfl
theorem inst : Tryz.f3.isInstance Tryz.pinned.checked.prog Rows.topIdentitiesUptoRow.origin Rows.topIdentitiesUptoRow.targs := of_decide_eq_true (by kernel_rfl)
theorem wrapper : Tryz.f3.isWrapper Tryz.pinned.checked.prog Rows.topIdentitiesUptoRow.wrapper Rows.topIdentitiesUptoRow.mainSum := by
  unfold Func.isWrapper
  rw [if_neg notMain]
  exact ⟨rfl, rfl⟩
theorem saidUpto : Rows.TopIdentitiesUptoSaid :=
  OpenClaim.holds_of_cond 3 Tryz.f3 rfl rfl rfl rfl rfl rfl rfl ⟨rfl, rfl, rfl, rfl, rfl⟩ rfl rfl rfl rfl rfl named Tryz.func3 facts inst wrapper
    (fun os started H enc _ F => by rw [OpenClaim.pre_eq_preRow]; exact liftedUpto os started H enc F)

theorem plain (f : FuncId) (fn : Func) (hf : Tryz.pinned.checked.prog.funcNamed "inequality/inequalitytop.TopIdentities" = some f) (hfn : Tryz.pinned.checked.prog.funcs[f]? = some fn) :
    false = Tryz.pinned.checked.prog.looks [] ∧ ∀ (j : Nat) t, fn.params[j]? = some t → Tryz.pinned.checked.prog.wantsStandIn t = false := by
  obtain rfl : f = 3 := Option.some.inj ((show Tryz.prog.funcNamed "inequality/inequalitytop.TopIdentities" = some 3 by kernel_rfl).symm.trans hf) |>.symm
  obtain rfl : fn = Tryz.f3 := (Option.some.inj (Tryz.func3.symm.trans hfn)).symm
  refine ⟨by kernel_rfl, fun j t ht => ?_⟩
  rw [Tryz.params3] at ht
  have h1 := Array.mem_of_getElem? ht
  simp at h1
  obtain rfl := h1
  exact (show Tryz.prog.wantsStandIn 26 = false by kernel_rfl)

theorem text : Rows.topIdentitiesUptoRow.wfByText (Rows.OpenSpec.upto Rows.topIdentitiesSpec) = true := by kernel_rfl
theorem main : Tryz.pinned.checked.prog.mainIs = some (Rows.topIdentitiesUptoCard.stood.harness.1, Rows.topIdentitiesUptoCard.stood.harness.2.toList) := by kernel_rfl
theorem goes : false = Rows.topIdentitiesUptoRow.goesBy Tryz.pinned.checked.prog := by kernel_rfl
/-- THE SECOND FORM's CARD -/
theorem cardUpto : Rows.TopIdentitiesUptoCardSaid :=
  Claim7.holds_tied_plain_at .later [] _ _ _ _ saidUpto (fun _ h => by cases h) text (fun _ h => by cases h) topIdentitiesUpto_row_tie rfl ⟨rfl, rfl⟩ main rfl plain goes
end Go.Proofs.YtdemgbmndijkkaaGreatDoor