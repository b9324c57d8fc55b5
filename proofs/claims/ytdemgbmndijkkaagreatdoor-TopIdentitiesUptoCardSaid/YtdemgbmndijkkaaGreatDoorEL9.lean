/- Package elem: spans of sines and cosines. -/
import Derived.Test.YtdemgbmndijkkaaGreatDoorEL8
set_option linter.unusedVariables false
set_option linter.unusedSimpArgs false
namespace Go.Proofs.YtdemgbmndijkkaaGreatDoor
open Go Go.Vc Go.Dig
/-- a number on the grid of multiples of 2^-w, not above 1 -/
structure OnG (q : Rat) (w Y : Nat) : Prop where
  ex : nu q * 2 ^ w = Y * q.den
  le : Y ≤ 2 ^ w
theorem OnG.y {q : Rat} {w Y : Nat} (g : OnG q w Y) : nu q * 2 ^ w / q.den = Y := by
  rw [g.ex, Nat.mul_div_cancel _ (Nat.pos_of_ne_zero q.den_nz)]
theorem OnG.zero {q : Rat} {w Y : Nat} (g : OnG q w Y) : Y = 0 ↔ nu q = 0 := by
  have h := g.ex
  have hp := Nat.two_pow_pos w
  constructor
  · intro e
    rw [e, Nat.zero_mul] at h
    rcases Nat.mul_eq_zero.1 h with h | h
    · exact h
    · omega
  · intro e
    rw [e, Nat.zero_mul] at h
    rcases Nat.mul_eq_zero.1 h.symm with h | h
    · exact h
    · exact absurd h q.den_nz
set_option maxRecDepth 20000 in
set_option maxHeartbeats 1000000 in
theorem sine_ct (h : Heap) (tb : Tb h) (a b c d : Sl) (q r : Rat) (w Y Z : Nat) (x : Int) (hx : x = w) (hq : IsRat h a b q) (hr : IsRat h c d r) (fq : fits q) (fr : fits r) (gq : OnG q w Y) (gr : OnG r w Z) (hw : w ≤ 200) :
    Fn0 T F.elem_sine [.agg #[.bool (sg q), a.val, b.val, .bool (sg r), c.val, d.val], .int .i64 x] h fun v h' => BrR h' v (An.sAt true (sg q) Y w) (An.sAt false (sg r) Z w) := by
  subst hx
  have k1 := fun h tb bl T0 fz hc hq => sine1_ct h tb bl T0 fz true (sg q) a b q w Y hc hq fq hw gq.y gq.le
  have k2 := fun h tb bl T0 fz hc hq => sine1_ct h tb bl T0 fz false (sg r) c d r w Z hc hq fr hw gr.y gr.le
  obtain ⟨S1, hS1⟩ : ∃ S, S = An.sAt true (sg q) Y w := ⟨_, rfl⟩
  obtain ⟨S2, hS2⟩ : ∃ S, S = An.sAt false (sg r) Z w := ⟨_, rfl⟩
  rw [← hS1] at k1 ⊢
  rw [← hS2] at k2 ⊢
  clear hS1 hS2
  refine fn0_of_codeI ok D.elem_sine rfl ?_
  conv => whnf
  repeat ((first | refine opsI.step ?_ | refine codeI.step ?_); conv => whnf)
  repeat' first
   | (show LdN _ _ _ _ _; first
     | (refine LdN.ownAt 0 rfl rfl ?_; conv => whnf)
     | (refine LdN.ownAt 2 rfl rfl ?_; conv => whnf))
   | (refine ⟨fun _ => HasLe.keep1 (Heap.le_trans hlg hl) (hl _ _ hcg), ?_⟩; conv => whnf)
   | ((first | refine opsI.step ?_ | refine codeI.step ?_); conv => whnf)
   | (refine ⟨fun _ => HasLe.of_le (by assumption), ?_⟩; conv => whnf)
   | (refine ⟨fun hst => (by cases (show true = false from hst)), ?_⟩; conv => whnf)
   | (intro (_ : Nat); conv => whnf)
   | (show CallN _ _ _ _ _ _; first
     | (refine CallN.keep1 rfl (fun hg hlg hcg => ?_); refine CallN.fn rfl (k1 _ (by (iterate 30 (try first | assumption | refine Tb.mono ?_ (by assumption))); first | done | assumption) _ _ _ hcg (by (iterate 30 (try first | assumption | refine IsRat.mono ?_ (by assumption))); first | done | assumption)) (fun v h' hl hr => ?_); obtain ⟨c1, d1, rfl, hr1, hf1⟩ := hr; conv => whnf)
     | (refine CallN.fn rfl (k2 _ (by (iterate 30 (try first | assumption | refine Tb.mono ?_ (by assumption))); first | done | assumption) _ _ _ ((by assumption : Heap.le hg _) _ _ hcg) (by (iterate 30 (try first | assumption | refine IsRat.mono ?_ (by assumption))); first | done | assumption)) (fun v h' hl hr => ?_); obtain ⟨c2, d2, rfl, hr2, hf2⟩ := hr; conv => whnf))
   | (show Sto _ _ _ _; first
     | (refine Sto.lit 0 rfl rfl rfl ?_; conv => whnf))
   | (show DrawN _ _ _ _ _ _; first
     | (refine DrawN.run (by decide +kernel) ?_; conv => whnf))
  all_goals exact RetN.all ⟨_, _, _, _, rfl, (by (iterate 30 (try first | assumption | refine IsRat.mono ?_ (by assumption))); first | done | assumption), (by assumption), hf1, hf2⟩
theorem cAt_small (ln hn : Bool) (a b w : Nat) : (An.wvA (max a b) w 0).1 ≤ 2 ^ w ∧ (An.wvA (if (ln = true ∧ hn = false) ∨ a = 0 ∨ b = 0 then 0 else min a b) w 0).2 ≤ 2 ^ w := ⟨(An.wvA_le _ w 0).1, (An.wvA_le _ w 0).2⟩
set_option maxRecDepth 20000 in
theorem minus_ct (h : Heap) (tb : Tb h) (a b c d : Sl) (q r : Rat) (hq : IsRat h a b q) (hr : IsRat h c d r) (fq : fits q) (fr : fits r) :
    Fn0 T F.elem_span_minus [.agg #[.bool (sg q), a.val, b.val, .bool (sg r), c.val, d.val]] h fun v h' => BrR h' v (-r) (-q) := by
  have f1 : fits (-q) := ⟨by rw [nu_neg]; exact fq.1, by rw [Rat.neg_den]; exact fq.2⟩
  have f2 : fits (-r) := ⟨by rw [nu_neg]; exact fr.1, by rw [Rat.neg_den]; exact fr.2⟩
  have k : ∀ (q : Rat) (a b : Sl), fits q → fits (-q) → ∀ h, Tb h → IsRat h a b q → Fn0 T F.number_Neg [.agg #[.bool (sg q), a.val, b.val]] h fun v h' => ∃ a b : Sl, v = .tuple #[.agg #[.bool (sg (-q)), a.val, b.val], .int .i64 0] ∧ IsRat h' a b (-q) := fun q a b f1 f2 h tb w => by
    have hv := israt_val w (fits_sz f1)
    have e : spec1 (fun q => -q) (sg q) (dg 4294967296 (nu q)) (dg 4294967296 (dn q)) = (-q, 0) := by
      unfold spec1
      rw [if_pos (okR_dg f1), ratOf_dg]; exact if_pos f2
    refine (NNeg_ct h tb (sg q) a b _ _ hv).mono fun v h' _ r => ?_
    rw [e] at r
    exact r
  have k1 := k q a b fq f1
  have k2 := k r c d fr f2
  clear k
  obtain ⟨u, hu⟩ : ∃ u, u = -q := ⟨_, rfl⟩
  obtain ⟨v, hv⟩ : ∃ u, u = -r := ⟨_, rfl⟩
  rw [← hu] at k1 f1 ⊢
  rw [← hv] at k2 f2 ⊢
  clear hu hv
  refine fn0_of_codeI ok D.elem_span_minus rfl ?_
  conv => whnf
  repeat ((first | refine opsI.step ?_ | refine codeI.step ?_); conv => whnf)
  repeat' first
   | (show LdN _ _ _ _ _; first
     | (refine LdN.ownAt 0 rfl rfl ?_; conv => whnf)
     | (refine LdN.ownAt 1 rfl rfl ?_; conv => whnf)
     | (refine LdN.ownAt 2 rfl rfl ?_; conv => whnf))
   | (show CallN _ _ _ _ _ _; first
     | (refine CallN.fn rfl (k1 _ (by (iterate 30 (try first | assumption | refine Tb.mono ?_ (by assumption))); first | done | assumption) (by (iterate 30 (try first | assumption | refine IsRat.mono ?_ (by assumption))); first | done | assumption)) (fun v h' hl hr => ?_); obtain ⟨c1, d1, rfl, hr1⟩ := hr; conv => whnf)
     | (refine CallN.fn rfl (k2 _ (by assumption) (by assumption)) (fun v h' hl hr => ?_); obtain ⟨c2, d2, rfl, hr2⟩ := hr; conv => whnf))
   | ((first | refine opsI.step ?_ | refine codeI.step ?_); conv => whnf)
   | (intro (_ : Nat); conv => whnf)
   | (show Sto _ _ _ _; first
     | (refine Sto.lit 0 rfl rfl rfl ?_; conv => whnf)
     | (refine Sto.lit 2 rfl rfl rfl ?_; conv => whnf))
  all_goals exact RetN.all ⟨_, _, _, _, rfl, (by (iterate 30 (try first | assumption | refine IsRat.mono ?_ (by assumption))); first | done | assumption), (by assumption), f2, f1⟩
end Go.Proofs.YtdemgbmndijkkaaGreatDoor