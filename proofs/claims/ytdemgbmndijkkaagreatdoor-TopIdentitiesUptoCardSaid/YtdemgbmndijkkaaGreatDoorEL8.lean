/- Package elem: sine and cosine of a remainder, the opposite of a span. -/
import Derived.Test.YtdemgbmndijkkaaGreatDoorEL7
set_option linter.unusedVariables false
set_option linter.unusedSimpArgs false
namespace Go.Proofs.YtdemgbmndijkkaaGreatDoor
open Go Go.Vc Go.Dig
set_option maxRecDepth 20000 in
theorem natural_ct (h : Heap) (tb : Tb h) (neg : Bool) (a b : Sl) (q : Rat) (w Y : Nat) (x : Int) (hx : x = w) (hq : IsRat h a b q) (hf : fits q) (hw : w ≤ 1000) (hY : nu q * 2 ^ w / q.den = Y) :
    Fn0 T F.elem_natural [.agg #[.bool neg, a.val, b.val], .int .i64 x] h fun v h' => ∃ s : Sl, v = s.val ∧ Nz h' s Y 3000 := by
  have sc := fun h tb hq => scaled_ct h tb neg a b q w x hx hq (fits_sz64 hf) hw
  rw [hY] at sc
  subst hx
  refine fn0_of_codeI ok D.elem_natural rfl ?_
  conv => whnf
  repeat ((first | refine opsI.step ?_ | refine codeI.step ?_); conv => whnf)
  repeat' first
   | (show CallN _ _ _ _ _ _; first
     | (refine CallN.fn rfl (sc _ (by assumption) (by assumption)) (fun v h' hl hr => ?_); obtain ⟨s', t', rfl, hs', ht'⟩ := hr; conv => whnf))
   | ((first | refine opsI.step ?_ | refine codeI.step ?_); conv => whnf)
   | (intro (_ : Nat); conv => whnf)
   | (show LdN _ _ _ _ _; first
     | (refine LdN.own 0 rfl rfl ?_; conv => whnf))
  all_goals exact RetN.all ⟨_, rfl, (Nz.mono (by assumption) (by (iterate 30 (try first | assumption | exact Heap.le_refl _)); first | done | assumption))⟩
/-- the sine of a multiple of 2^-w as the program's number -/
theorem sAt_mkQ (low neg : Bool) (y w : Nat) : An.sAt low neg y w = mkQ neg (if low != neg then y * (An.wvA y w 1).1 / 2 ^ w else An.cd (y * (An.wvA y w 1).2) (2 ^ w)) (2 ^ w) := by
  unfold An.sAt
  cases neg with
  | false => rw [mkQ_pow2, if_neg (by decide), Rat.one_mul]
  | true => rw [mkQ_pow2n, if_pos rfl]; grind
theorem sAt_small {low neg : Bool} {y w : Nat} (hy : y ≤ 2 ^ w) : nu (An.sAt low neg y w) ≤ 2 ^ w := by
  rw [sAt_mkQ]
  refine Nat.le_trans (mkQ_le neg (Nat.ne_of_gt (Nat.two_pow_pos w))).1 ?_
  have h := An.wvA_le y w 1
  split
  · exact An.div_le_nat (Nat.mul_le_mul hy h.1) (Nat.two_pow_pos w)
  · exact An.cd_le (Nat.mul_le_mul hy h.2) (Nat.two_pow_pos w)
set_option maxRecDepth 20000 in
set_option maxHeartbeats 1000000 in
theorem sine1_ct (h : Heap) (tb : Tb h) (bl : Nat) (T0 : TypeId) (fz : Nat × Nat) (low neg : Bool) (a b : Sl) (q : Rat) (w Y : Nat) (hc : h bl = some (.cells #[.int .i64 w] T0 fz)) (hq : IsRat h a b q) (hf : fits q) (hw : w ≤ 200) (hY : nu q * 2 ^ w / q.den = Y) (hY1 : Y ≤ 2 ^ w) :
    Fn0 T F.elem_sine_1 [.agg #[.bool neg, a.val, b.val], .bool low, .pointer (some ⟨bl, 0, none⟩)] h fun v h' => ∃ c d : Sl, v = .agg #[.bool (sg (An.sAt low neg Y w)), c.val, d.val] ∧ IsRat h' c d (An.sAt low neg Y w) ∧ fits (An.sAt low neg Y w) := by
  have nt := fun h tb hq => natural_ct h tb neg a b q w Y (w : Int) rfl hq hf (by omega) hY
  have wl := An.wvA_le Y w 1
  have e0 := sAt_mkQ low neg Y w
  obtain ⟨S, hS⟩ : ∃ S, S = An.sAt low neg Y w := ⟨_, rfl⟩
  obtain ⟨W1, hW⟩ : ∃ S, S = An.wvA Y w 1 := ⟨_, rfl⟩
  rw [← hS] at e0 ⊢
  rw [← hW] at e0 wl
  have lw : ln 4294967296 (2 ^ w) ≤ 60 := ln_two_pow_le (by omega)
  have x1 : ln 4294967296 (Y * W1.1 / 2 ^ w) ≤ 64 := Nat.le_trans (ln_le_of_le (An.div_le_nat (Nat.mul_le_mul hY1 wl.1) (Nat.two_pow_pos w))) (by omega)
  have x2 : ln 4294967296 (An.cd (Y * W1.2) (2 ^ w)) ≤ 64 := Nat.le_trans (ln_le_of_le (An.cd_le (Nat.mul_le_mul hY1 wl.2) (Nat.two_pow_pos w))) (by omega)
  have ly : ln 4294967296 Y ≤ 60 := Nat.le_trans (ln_le_of_le hY1) lw
  have wv := fun h tb s ns => waves_ct h tb s Y 60 w 1 (w : Int) 2 rfl rfl ns (by omega) hY1 hw (by omega)
  rw [← hW] at wv
  have r1 := fun h tb s k ns => rational_ct h tb s (Y * W1.1 / 2 ^ w) k w neg (w : Int) rfl ns x1 (by omega)
  have r2 := fun h tb s k ns => rational_ct h tb s (An.cd (Y * W1.2) (2 ^ w)) k w neg (w : Int) rfl ns x2 (by omega)
  clear hS hW
  refine fn0_of_codeI ok D.elem_sine_1 rfl ?_
  cases low <;> cases neg
  all_goals
    simp only [bne_self_eq_false, Bool.false_eq_true, if_false, if_true, show (false != true) = true from rfl, show (true != false) = true from rfl] at e0
    subst e0
  all_goals conv => whnf
  all_goals (repeat' first
     | (show Ld _ _ _ _; first
       | (refine Ld.of (Has.imm ((by first | assumption | exact Heap.le_trans (by assumption) (by assumption) | exact Heap.le_trans (by assumption) (Heap.le_trans (by assumption) (by assumption)) | exact Heap.le_trans (by assumption) (Heap.le_trans (by assumption) (Heap.le_trans (by assumption) (by assumption))) : Heap.le h _) _ _ hc) rfl) ?_; conv => whnf)
       | (refine Ld.of (Has.imm hc rfl) ?_; conv => whnf)
       | (refine Ld.own 0 rfl rfl ?_; conv => whnf)
       | (refine Ld.own 2 rfl rfl ?_; conv => whnf))
     | (show CallN _ _ _ _ _ _; first
       | (refine CallN.fn rfl (nt _ (by assumption) (by assumption)) (fun v h' hl hr => ?_); obtain ⟨s', rfl, hs'⟩ := hr; replace hs' := Nz.by_ln hs' ly; conv => whnf)
       | (refine CallN.fn rfl (wv _ (by (iterate 30 (try first | assumption | refine Tb.mono ?_ (by assumption))); first | done | assumption) _ (Nz.mono (by assumption) (by (iterate 30 (try first | assumption | exact Heap.le_refl _)); first | done | assumption))) (fun v h' hl hr => ?_); obtain ⟨s', t', rfl, hs', ht'⟩ := hr; conv => whnf)
       | (refine CallN.fn rfl (MulZ _ _ _ _ _ _ _ (Nz.mono (by assumption) (by assumption)) (Nz.mono (by assumption) (by (iterate 30 (try first | assumption | exact Heap.le_refl _)); first | done | assumption)) (by omega) (by omega)) (fun v h' hl hr => ?_); obtain ⟨s', rfl, hs'⟩ := hr; conv => whnf)
       | (refine CallN.fn rfl (ShrZ _ _ _ _ w _ (by omega) (Nz.mono (by assumption) (by (iterate 30 (try first | assumption | exact Heap.le_refl _)); first | done | assumption)) (by omega) (by omega)) (fun v h' hl hr => ?_); obtain ⟨s', rfl, hs'⟩ := hr; conv => whnf)
       | (refine CallN.fn rfl (up_ct _ (by (iterate 30 (try first | assumption | refine Tb.mono ?_ (by assumption))); first | done | assumption) _ _ _ w _ (by omega) (Nz.mono (by assumption) (by (iterate 30 (try first | assumption | exact Heap.le_refl _)); first | done | assumption)) (by omega) (by omega)) (fun v h' hl hr => ?_); obtain ⟨s', rfl, hs'⟩ := hr; conv => whnf)
       | (refine CallN.fn rfl (r1 _ (by (iterate 30 (try first | assumption | refine Tb.mono ?_ (by assumption))); first | done | assumption) _ _ (Nz.mono (by assumption) (by (iterate 30 (try first | assumption | exact Heap.le_refl _)); first | done | assumption))) (fun v h' hl hr => ?_); obtain ⟨c', d', rfl, hr', hf'⟩ := hr; conv => whnf)
       | (refine CallN.fn rfl (r2 _ (by (iterate 30 (try first | assumption | refine Tb.mono ?_ (by assumption))); first | done | assumption) _ _ (Nz.mono (by assumption) (by (iterate 30 (try first | assumption | exact Heap.le_refl _)); first | done | assumption))) (fun v h' hl hr => ?_); obtain ⟨c', d', rfl, hr', hf'⟩ := hr; conv => whnf))
     | ((first | refine opsI.step ?_ | refine codeI.step ?_); conv => whnf)
     | (refine ⟨fun _ => HasLe.of_le (by assumption), ?_⟩; conv => whnf)
     | (refine ⟨fun hst => (by cases (show true = false from hst)), ?_⟩; conv => whnf)
     | (intro (_ : Nat); conv => whnf)
     | (show cnd _ _ _; first
       | (refine cnd_not ?_)
       | (refine cnd_beq (fun _ => ?_) (fun hne => ?_) <;> first | exact absurd rfl hne | (conv => whnf)))
     | (show LdN _ _ _ _ _; first
       | (refine LdN.own 1 rfl rfl ?_; conv => whnf))
     | (show Sto _ _ _ _; first
       | (refine Sto.lit 0 rfl rfl rfl ?_; conv => whnf)
       | (refine Sto.lit 1 rfl rfl rfl ?_; conv => whnf))
     | (show DrawN _ _ _ _ _ _; first
       | (refine DrawN.run (by decide +kernel) ?_; conv => whnf)))
  all_goals first
    | exact RetN.all ⟨_, _, rfl, (by assumption), hf'⟩
    | exact absurd (by assumption : false = true) (by decide)
    | exact absurd (by assumption : true = false) (by decide)
    | exact absurd (rfl : true = true) (by assumption)
    | exact absurd (rfl : false = false) (by assumption)
end Go.Proofs.YtdemgbmndijkkaaGreatDoor