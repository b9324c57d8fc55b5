/- NumberDecimals: the card. -/
import Derived.Test.YteblflmnhegmjaaDoorFr4
import Derived.Test.YteblflmnhegmjaaDoorP6
set_option linter.unusedVariables false
set_option linter.unusedSimpArgs false
namespace Go.Proofs.YteblflmnhegmjaaDoor
open Go Go.Vc Go.Dig Go.ChangeShapes Go.WideShapes Go.ChangeAt Go.RowKit

def zeros : Array Value := #[.string ByteArray.empty, .string ByteArray.empty]
theorem tb_laid {W : World} (h : laidMetH Tryd.prog Rows.numberDecimalsRow.laid W) : Tb (heapOf W) := by
  exact tb_of (Lib.tabIs_of_head (rest := []) gTab gTabType Tryd.underlying133 Tryd.underlying5 cells5 cells110 h)
theorem laid_met (os : Os) : laidMet Tryd.prog Rows.numberDecimalsRow.laid ((laidWorld os).forCall (fun _ _ => 0) ⟨#[], zeros, []⟩).memory :=
  laidMet_of_run' 8 (by kernel_rfl) (by kernel_rfl)
theorem reads (os : Os) {H : Type} (enc : TypeId × Value → H) : ∃ places, DataW.whole enc Tryd.prog ((laidWorld os).forCall (fun _ _ => 0) ⟨#[], zeros, []⟩).memory Tryd.f12.params.toList Rows.numberDecimalsSpec.vars false zeros.toList 8 = some ([.lit (.string []), .lit (.string [])], [], places) :=
  ⟨[], by kernel_rfl⟩
theorem law_holds (h : Heap) (xs : List Arg) (tb : Tb h) (o : oks h [9, 9] xs) : Fn0 T 12 (xs.map Arg.val) h fun v _ => v = .bool true := by
  obtain ⟨x1, xs1, rfl, o1, r1⟩ := oks_cons o
  obtain ⟨s1, rfl, hs1⟩ := ok_str Tryd.underlying9 o1
  obtain ⟨x2, xs2, rfl, o2, r2⟩ := oks_cons r1
  obtain ⟨s2, rfl, hs2⟩ := ok_str Tryd.underlying9 o2
  obtain rfl := oks_nil r2
  exact Decimals_law h tb s1 hs1 s2 hs2

theorem goods : ∀ t ∈ [9, 9], good t := by
  intro t ht
  simp only [List.mem_cons, List.not_mem_nil, or_false] at ht
  rcases ht with rfl | rfl
  · exact .inl (.inr Tryd.underlying9)
  · exact .inl (.inr Tryd.underlying9)
set_option maxRecDepth 100000 in
theorem liftedUpto (os : Os) (started : os.Started) (H : Type) (enc : TypeId × Value → H) (F : Stop.Interp) :
    ReturnsInHanded {} Tryd.checked os 12 .any ((OpenSpec.ofChange Rows.numberDecimalsSpec).preRow enc Tryd.prog Tryd.f12 Rows.numberDecimalsRow.domain false Rows.numberDecimalsRow.laid) (((OpenSpec.ofChange Rows.numberDecimalsSpec).at F).post enc Tryd.prog Tryd.f12 false true false false) := by
  obtain ⟨places, hx⟩ := reads os enc
  refine returnsInHanded_of_row (C := Tryd.checked) (s := OpenSpec.ofChange Rows.numberDecimalsSpec) own started (by kernel_rfl) Tryd.func12
    (witness_row_at (enc := enc) (C := Tryd.checked) false (laidWorld os) zeros rfl (by kernel_rfl) (by kernel_rfl) (by kernel_rfl)
      (OpenSpec.preRow_of_cond 8 hx (by kernel_rfl) (fun k hk => by cases hk) (by kernel_rfl) (laid_met os))) ?_
  intro W base args ds gs before hval hW _ hcond _ hL _ _
  exact law_contract 12 Tryd.f12 Rows.numberDecimalsSpec Rows.numberDecimalsRow.laid [9, 9] Tryd.params12 (by exact goods) (by kernel_rfl) rfl (fun _ ds h => match ds, h with | [_, _], _ => rfl) (fun _ => tb_laid) law_holds
    H enc W base args ds gs before hval hW (.inr (by decide)) hL

theorem saidUpto : Rows.NumberDecimalsSaid :=
  OpenClaim.holds_of_cond 12 Tryd.f12 rfl rfl rfl rfl rfl rfl rfl ⟨rfl, rfl, rfl, rfl, rfl⟩ rfl rfl rfl rfl rfl (by kernel_rfl) Tryd.func12 (by kernel_rfl)
    (of_decide_eq_true (by kernel_rfl)) (by unfold Func.isWrapper; first | (rw [if_pos (by decide +kernel)]; kernel_rfl) | (rw [if_neg (by decide +kernel)]; exact ⟨rfl, rfl⟩))
    (fun os started H enc _ F => by rw [OpenClaim.pre_eq_preRow]; exact liftedUpto os started H enc F)

theorem plain (f : FuncId) (fn : Func) (hf : Tryd.pinned.checked.prog.funcNamed "inequality/inequalitylaw01.NumberDecimals" = some f) (hfn : Tryd.pinned.checked.prog.funcs[f]? = some fn) :
    false = Tryd.pinned.checked.prog.looks [] ∧ ∀ (j : Nat) t, fn.params[j]? = some t → Tryd.pinned.checked.prog.wantsStandIn t = false := by
  obtain rfl : f = 12 := Option.some.inj ((show Tryd.prog.funcNamed "inequality/inequalitylaw01.NumberDecimals" = some 12 by kernel_rfl).symm.trans hf) |>.symm
  obtain rfl : fn = Tryd.f12 := (Option.some.inj (Tryd.func12.symm.trans hfn)).symm
  refine ⟨by kernel_rfl, fun j t ht => ?_⟩
  rw [Tryd.params12] at ht
  have h1 := Array.mem_of_getElem? ht
  simp at h1
  obtain rfl := h1
  exact (show Tryd.prog.wantsStandIn 9 = false by kernel_rfl)

/-- THE CARD -/
theorem cardUpto : Rows.NumberDecimalsCardSaid :=
  Claim7.holds_tied_plain_at .later [] _ _ _ _ saidUpto (fun _ h => by cases h) (by kernel_rfl) (fun _ h => by cases h) numberDecimals_row_tie rfl ⟨rfl, rfl⟩ (by kernel_rfl) rfl plain (by kernel_rfl)
end Go.Proofs.YteblflmnhegmjaaDoor
