/- NumberBetween: the card. -/
import Derived.Test.YteblflmnhegmjaaDoorFr4
import Derived.Test.YteblflmnhegmjaaDoorM5
set_option linter.unusedVariables false
set_option linter.unusedSimpArgs false
namespace Go.Proofs.YteblflmnhegmjaaDoor
open Go Go.Vc Go.Dig Go.ChangeShapes Go.WideShapes Go.ChangeAt Go.RowKit

def zeros : Array Value := #[zeroRat, zeroRat, zeroRat]
theorem tb_laid {W : World} (h : laidMetH Tryd.prog Rows.numberBetweenUptoRow.laid W) : Tb (heapOf W) := by
  exact tb_of (Lib.tabIs_of_head (rest := []) gTab gTabType Tryd.underlying133 Tryd.underlying5 cells5 cells110 h)
theorem laid_met (os : Os) : laidMet Tryd.prog Rows.numberBetweenUptoRow.laid ((laidWorld os).forCall (fun _ _ => 0) ⟨#[], zeros, []⟩).memory :=
  laidMet_of_run' 8 (by kernel_rfl) (by kernel_rfl)
theorem reads (os : Os) {H : Type} (enc : TypeId × Value → H) : ∃ places, DataW.whole enc Tryd.prog ((laidWorld os).forCall (fun _ _ => 0) ⟨#[], zeros, []⟩).memory Tryd.f10.params.toList Rows.numberBetweenSpec.vars false zeros.toList 8 = some ([zd, zd, zd], [], places) :=
  ⟨[], by kernel_rfl⟩
theorem law_holds (h : Heap) (xs : List Arg) (tb : Tb h) (o : oks h [24, 24, 24] xs) : Fn0 T 10 (xs.map Arg.val) h fun v _ => v = .bool true := by
  obtain ⟨x1, xs1, rfl, o1, r1⟩ := oks_cons o
  obtain ⟨n1, a1, b1, l1, m1, rfl, v1⟩ := ok_rat o1
  obtain ⟨x2, xs2, rfl, o2, r2⟩ := oks_cons r1
  obtain ⟨n2, a2, b2, l2, m2, rfl, v2⟩ := ok_rat o2
  obtain ⟨x3, xs3, rfl, o3, r3⟩ := oks_cons r2
  obtain ⟨n3, a3, b3, l3, m3, rfl, v3⟩ := ok_rat o3
  obtain rfl := oks_nil r3
  exact Between_law h tb n1 a1 b1 l1 m1 v1 n2 a2 b2 l2 m2 v2 n3 a3 b3 l3 m3 v3

theorem goods : ∀ t ∈ [24, 24, 24], good t := by
  intro t ht
  simp only [List.mem_cons, List.not_mem_nil, or_false] at ht
  rcases ht with rfl | rfl | rfl
  · exact good24
  · exact good24
  · exact good24
set_option maxRecDepth 100000 in
theorem liftedUpto (os : Os) (started : os.Started) (H : Type) (enc : TypeId × Value → H) (F : Stop.Interp) :
    ReturnsInHanded {} Tryd.checked os 10 .any ((Rows.OpenSpec.upto Rows.numberBetweenSpec).preRow enc Tryd.prog Tryd.f10 Rows.numberBetweenUptoRow.domain false Rows.numberBetweenUptoRow.laid) (((Rows.OpenSpec.upto Rows.numberBetweenSpec).at F).post enc Tryd.prog Tryd.f10 false true false false) := by
  obtain ⟨places, hx⟩ := reads os enc
  refine returnsInHanded_of_row (C := Tryd.checked) (s := Rows.OpenSpec.upto Rows.numberBetweenSpec) own started (by kernel_rfl) Tryd.func10
    (witness_row_at (enc := enc) (C := Tryd.checked) false (laidWorld os) zeros rfl (by kernel_rfl) (by kernel_rfl) (by kernel_rfl)
      (OpenSpec.preRow_of_cond 8 hx (by kernel_rfl) (fun k hk => by cases hk; kernel_rfl) (by kernel_rfl) (laid_met os))) ?_
  intro W base args ds gs before hval hW _ hcond _ hL _ _
  exact law_contract 10 Tryd.f10 Rows.numberBetweenSpec Rows.numberBetweenUptoRow.laid [24, 24, 24] Tryd.params10 (by exact goods) (by kernel_rfl) rfl (fun _ ds h => match ds, h with | [_, _, _], _ => rfl) (fun _ => tb_laid) law_holds
    H enc W base args ds gs before hval hW (.inl (of_decide_eq_true (hcond _ rfl))) hL

theorem saidUpto : Rows.NumberBetweenUptoSaid :=
  OpenClaim.holds_of_cond 10 Tryd.f10 rfl rfl rfl rfl rfl rfl rfl ⟨rfl, rfl, rfl, rfl, rfl⟩ rfl rfl rfl rfl rfl (by kernel_rfl) Tryd.func10 (by kernel_rfl)
    (of_decide_eq_true (by kernel_rfl)) (by unfold Func.isWrapper; first | (rw [if_pos (by decide +kernel)]; kernel_rfl) | (rw [if_neg (by decide +kernel)]; exact ⟨rfl, rfl⟩))
    (fun os started H enc _ F => by rw [OpenClaim.pre_eq_preRow]; exact liftedUpto os started H enc F)

theorem plain (f : FuncId) (fn : Func) (hf : Tryd.pinned.checked.prog.funcNamed "inequality/inequalitylaw01.NumberBetween" = some f) (hfn : Tryd.pinned.checked.prog.funcs[f]? = some fn) :
    false = Tryd.pinned.checked.prog.looks [] ∧ ∀ (j : Nat) t, fn.params[j]? = some t → Tryd.pinned.checked.prog.wantsStandIn t = false := by
  obtain rfl : f = 10 := Option.some.inj ((show Tryd.prog.funcNamed "inequality/inequalitylaw01.NumberBetween" = some 10 by kernel_rfl).symm.trans hf) |>.symm
  obtain rfl : fn = Tryd.f10 := (Option.some.inj (Tryd.func10.symm.trans hfn)).symm
  refine ⟨by kernel_rfl, fun j t ht => ?_⟩
  rw [Tryd.params10] at ht
  have h1 := Array.mem_of_getElem? ht
  simp at h1
  obtain rfl := h1
  exact wants24

/-- THE SECOND FORM's CARD -/
theorem cardUpto : Rows.NumberBetweenUptoCardSaid :=
  Claim7.holds_tied_plain_at .later [] _ _ _ _ saidUpto (fun _ h => by cases h) (by kernel_rfl) (fun _ h => by cases h) numberBetweenUpto_row_tie rfl ⟨rfl, rfl⟩ (by kernel_rfl) rfl plain (by kernel_rfl)
end Go.Proofs.YteblflmnhegmjaaDoor
