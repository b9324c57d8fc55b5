/- The law's count of one bracket's digits. -/
import Derived.Test.YtdemgbmndijkkaaGreatDoorEL20
set_option linter.unusedVariables false
set_option linter.unusedSimpArgs false
namespace Go.Proofs.YtdemgbmndijkkaaGreatDoor
open Go Go.Vc Go.Dig
theorem dg_low {n : Nat} (h : 0 < n) (h2 : n < 4294967296) : dg 4294967296 n = [n] := by
  rw [dg_pos two_le_B (by omega), Nat.mod_eq_of_lt h2, Nat.div_eq_of_lt h2, dg_zero]
theorem fits_1 : fits 1 := fits_exV 1
theorem one_put (h : Heap) (b : Nat) (T : TypeId) : IsRat (h.put b (.cells #[.int .u32 1] T)) ⟨some ⟨b, 0, none⟩, 1, 1⟩ ⟨none, 0, 0⟩ 1 :=
  ⟨by
    rw [show nu 1 = 1 from by decide +kernel]
    unfold IsNat
    rw [dg_low (by decide) (by decide)]
    exact Ws.row (o := [1]) rfl, by rw [if_pos (by decide +kernel)]; exact IsNat.nil rfl⟩
theorem rdy_one : Rdy 1 1 3 := ⟨fits_1, by decide, by decide, fun x => absurd x (by decide), by decide +kernel, by decide +kernel, fun _ => by decide +kernel, fun x => absurd x (by decide)⟩
theorem exp_one : An.expA (sg 1) (nu 1 * 2 ^ (3 + 112) / (1 : Rat).den) (An.cd (nu 1 * 2 ^ (3 + 112)) (1 : Rat).den) 3 = (21, 22) := by decide +kernel
theorem ser_one : SerG (fun lo hi => lo = 21 / 8 ∧ hi = 11 / 4) F.elem_exp 1 1 3 := fun h a b tb w r hx => by
  refine (elexp_ct h tb a b 1 (sg 1) 3 3 rfl w fits_1 (by decide +kernel) (by decide)).mono fun v h' _ rr => ?_
  obtain ⟨v', e, br⟩ := rr
  rw [exp_one] at br
  exact ⟨v', _, _, e, br, by decide +kernel, by decide +kernel⟩
set_option maxRecDepth 20000 in
set_option maxHeartbeats 4000000 in
theorem counts_ct (h : Heap) (tb : Tb h) : Fn0 T F.top_counts [] h fun v h' => v = .bool true := by
  have ke := fun h tb a b w => Exp_gen _ h tb a b 1 3 ser_one (fun x => absurd x (by decide +kernel)) w (fits_sz fits_1)
  rw [show sg 1 = false from by decide +kernel] at ke
  have kx : ∀ (h : Heap), Tb h → ∀ (a b : Sl), IsRat h a b 1 → Fn0 T F.elem_Exp [.agg #[.bool false, a.val, b.val], .int .i64 3] h fun v h' => ∃ a1 b1 a2 b2 : Sl, v = .tuple #[.agg #[.bool false, a1.val, b1.val, .bool false, a2.val, b2.val], .int .i64 0] ∧ Ws .u32 h' a1 [21] ∧ Ws .u32 h' a2 [11] := fun h tb a b w => (ke h tb a b w).mono fun v h' _ r => by
    obtain ⟨v', e, lo, hi, rfl, ⟨a1, b1, a2, b2, rfl, hr1, hr2, hf1, hf2⟩, he, gd⟩ := r
    obtain rfl := he.2 rdy_one
    obtain ⟨rfl, rfl⟩ := gd rfl
    have n1 : Ws .u32 h' a1 (dg 4294967296 (nu (21 / 8))) := hr1.num
    have n2 : Ws .u32 h' a2 (dg 4294967296 (nu (11 / 4))) := hr2.num
    rw [show nu (21 / 8) = 21 from by decide +kernel, dg_low (by decide) (by decide)] at n1
    rw [show nu (11 / 4) = 11 from by decide +kernel, dg_low (by decide) (by decide)] at n2
    exact ⟨a1, b1, a2, b2, by rw [show sg (21 / 8) = false from by decide +kernel, show sg (11 / 4) = false from by decide +kernel], n1, n2⟩
  refine fn0_of_codeI ok D.top_counts rfl ?_
  conv => whnf
  repeat ((first | refine opsI.step ?_ | refine codeI.step ?_); conv => whnf)
  repeat' first
   | (show CallN _ _ _ _ _ _; first
     | (refine CallN.keep 0 rfl rfl fun hg => ?_; refine CallN.fn rfl (kx _ (Tb.mono tb hg) ⟨some _, 1, 1⟩ ⟨none, 0, 0⟩ (one_put _ _ _)) (fun v h' hl hr => ?_); obtain ⟨a1, b1, a2, b2, rfl, hr1, hr2⟩ := hr; have hl1 : a1.l = 1 := hr1.len; have hl2 : a2.l = 1 := hr2.len; conv => whnf))
   | (show Idx _ _ _ _ _; first
     | (refine Idx.ws hr1 0 rfl (by decide) (fun ad hv => ?_); change ∀ L, Has _ L ad (.int .u32 21) at hv; conv => whnf)
     | (refine Idx.ws hr2 0 rfl (by decide) (fun ad hv => ?_); change ∀ L, Has _ L ad (.int .u32 11) at hv; conv => whnf))
   | (show Ld _ _ _ _; first
     | (refine Ld.of (by first | exact hv _ | (rename_i hv; exact hv _)) ?_; conv => whnf)
     | (refine Ld.own 0 rfl rfl ?_; conv => whnf))
   | ((first | refine opsI.step ?_ | refine codeI.step ?_); conv => whnf)
   | (intro (_ : Nat); conv => whnf)
   | (show cnd _ _ _; first
     | (refine cnd_eq (fun _ => ?_) (fun _ => ?_) <;> first | (exfalso; omega) | (conv => whnf)))
   | (show Sto _ _ _ _; first
     | (refine Sto.lit 0 rfl rfl rfl ?_; conv => whnf))
  all_goals first
    | exact RetN.all rfl
    | exact RetN.all (by rw [Vc.eq_true' rfl])
    | (exfalso; omega)
end Go.Proofs.YtdemgbmndijkkaaGreatDoor