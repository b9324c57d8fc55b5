/- What the statement on signs computes: true. -/
import Derived.Test.YteblflmnhegmjaaDoorL4
import Derived.Test.YteblflmnhegmjaaDoorN3
set_option linter.unusedVariables false
set_option linter.unusedSimpArgs false
namespace Go.Proofs.YteblflmnhegmjaaDoor
open Go Go.Vc Go.Dig
theorem fits_neg {q : Rat} (h : fits q) : fits (-q) := ⟨by rw [nu_neg]; exact h.1, by rw [Rat.neg_den]; exact h.2⟩
theorem fits_abs {q : Rat} (h : fits q) : fits (absQ q) := ⟨by rw [nu_abs]; exact h.1, by rw [den_abs]; exact h.2⟩
set_option maxRecDepth 20000 in
set_option maxHeartbeats 1000000 in
theorem Signs_law (h : Heap) (tb : Tb h) (n1 : Bool) (a1 b1 : Sl) (l1 m1 : List Nat) (hv1 : IsVal h a1 b1 l1 m1) :
    Fn0 T F.law01_NumberSigns [.agg #[.bool n1, a1.val, b1.val]] h fun v _ => v = .bool true := by
  by_cases hk : okR n1 l1 m1
  · have hf := hk.2.2
    have e : specSign n1 l1 m1 = (signQ (ratOf n1 l1 m1), 0) := if_pos hk
    have e1 : spec1 (fun q => -q) n1 l1 m1 = (-ratOf n1 l1 m1, 0) := by unfold spec1; rw [if_pos hk]; exact if_pos (fits_neg hf)
    have e2 : spec1 absQ n1 l1 m1 = (absQ (ratOf n1 l1 m1), 0) := by unfold spec1; rw [if_pos hk]; exact if_pos (fits_abs hf)
    have s1 := ratOf_sr2 hk
    have z1 := okR.sz hk
    obtain ⟨q, eqq⟩ : ∃ q, q = ratOf n1 l1 m1 := ⟨_, rfl⟩
    rw [← eqq] at e e1 e2 s1 z1
    obtain ⟨c, hc⟩ : ∃ c, c = signQ q := ⟨_, rfl⟩
    rw [← hc] at e
    have y0 : Sr 1099511627776 q := s1.mono (by decide)
    have y1 : Sr 4294967296 (-q) := (Sr.neg s1).mono (by decide)
    have y2 : Sr 4294967296 (absQ q) := ⟨by rw [nu_abs]; exact Nat.le_trans s1.num (by decide), by rw [den_abs]; exact Nat.le_trans s1.den (by decide)⟩
    have y3 : Sz 1073741824 (-q) := (Sz.neg z1).mono (by decide)
    have y4 : Sz 1073741824 (absQ q) := (Sz.abs z1).mono (by decide)
    have m0 := fun (h : Heap) (a b : Sl) => Mag_q h a b q
    have m1' := fun (h : Heap) (a b : Sl) (w : IsQ h a b q) => IsQ.abs w
    obtain ⟨w, hw⟩ : ∃ w, w = absQ q := ⟨_, rfl⟩
    rw [← hw] at e2 y2 y4 m0 m1'
    refine fn0_of_codeI ok D.law01_NumberSigns rfl ?_
    conv => whnf
    repeat ((first | refine opsI.step ?_ | refine codeI.step ?_); conv => whnf)
    repeat' first
     | (show CallN _ _ _ _ _ _; first
       | (refine CallN.fn rfl (NSign_ct _ (by assumption) _ _ _ l1 m1 (by assumption)) (fun v h' hl hr => ?_); rw [e] at hr; obtain rfl := (show v = .tuple #[.int .i64 c, .int .i64 0] from hr); conv => whnf)
       | (refine CallN.fn rfl (NNeg_ct _ (by (iterate 30 (try first | assumption | refine Tb.mono ?_ (by assumption))); first | done | assumption) _ _ _ l1 m1 (by (iterate 30 (try first | assumption | refine IsVal.mono ?_ (by assumption))); first | done | assumption)) (fun v h' hl hr => ?_); rw [e1] at hr; obtain ⟨x, y, rfl, hq⟩ := Res.two hr; conv => whnf)
       | (refine CallN.fn rfl (NAbs_ct _ (by (iterate 30 (try first | assumption | refine Tb.mono ?_ (by assumption))); first | done | assumption) _ _ _ l1 m1 (by (iterate 30 (try first | assumption | refine IsVal.mono ?_ (by assumption))); first | done | assumption)) (fun v h' hl hr => ?_); rw [e2] at hr; obtain ⟨x, y, rfl, hq⟩ := Res.two hr; conv => whnf)
       | (refine CallN.fn rfl (Large_t _ _ _ _ l1 m1 hk (by (iterate 30 (try first | assumption | refine IsVal.mono ?_ (by assumption))); first | done | assumption)) (fun v h' hl hr => ?_); obtain rfl := hr; conv => whnf)
       | (refine CallN.fn rfl (QOf_ct _ _ _ _ l1 m1 (by (iterate 30 (try first | assumption | refine IsVal.mono ?_ (by assumption))); first | done | assumption)) (fun v h' hl hx => ?_); rw [← eqq] at hx; obtain ⟨p1, p2, rfl, hp⟩ := hx; have hpn := IsQ.neg hp; have hpa := m1' _ _ _ hp; conv => whnf)
       | (refine CallN.quiet rfl (Sgn_q _ _ _ q (by assumption) y0) ?_; rw [← hc]; conv => whnf)
       | (refine CallN.quiet rfl (Opp_q _ _ _ q (by assumption) y0) ?_; conv => whnf)
       | (refine CallN.quiet rfl (m0 _ _ _) ?_; conv => whnf)
       | (refine CallN.fn rfl (Rat_ct _ _ _ (-q) (by assumption) y1) (fun v h' hl hr => ?_); obtain ⟨x, y, rfl, hq⟩ := hr; conv => whnf)
       | (refine CallN.fn rfl (Rat_ct _ _ _ w (by (iterate 30 (try first | assumption | refine IsQ.mono ?_ (by assumption))); first | done | assumption) y2) (fun v h' hl hr => ?_); obtain ⟨x, y, rfl, hq⟩ := hr; conv => whnf)
       | (refine CallN.fn rfl (Is_ct _ _ _ _ _ (-q) 0 (by (iterate 30 (try first | assumption | refine IsRat.mono ?_ (by assumption))); first | done | assumption) (by assumption) y3 (fun hh => absurd rfl hh)) (fun v h' hl hr => ?_); obtain rfl := hr; conv => whnf)
       | (refine CallN.fn rfl (Is_ct _ _ _ _ _ w 0 (by (iterate 30 (try first | assumption | refine IsRat.mono ?_ (by assumption))); first | done | assumption) (by assumption) y4 (fun hh => absurd rfl hh)) (fun v h' hl hr => ?_); obtain rfl := hr; conv => whnf)
       | (refine CallN.fn rfl (awake_ct _ (by (iterate 30 (try first | assumption | refine Tb.mono ?_ (by assumption))); first | done | assumption)) (fun v h' hl hr => ?_); obtain rfl := hr; conv => whnf))
     | ((first | refine opsI.step ?_ | refine codeI.step ?_); conv => whnf)
     | (refine ⟨fun _ => HasLe.of_le (Heap.le_refl _), ?_⟩; conv => whnf)
     | (refine ⟨fun _ => HasLe.of_le (by assumption), ?_⟩; conv => whnf)
     | (intro (_ : Nat); conv => whnf)
     | (show cnd _ _ _; first
       | (refine cnd_eq (fun _ => ?_) (fun _ => ?_) <;> first | (exfalso; omega) | (conv => whnf)))
     | (show LdN _ _ _ _ _; first
       | (refine LdN.own 0 rfl rfl ?_; conv => whnf)
       | (refine LdN.own 1 rfl rfl ?_; conv => whnf)
       | (refine LdN.own 2 rfl rfl ?_; conv => whnf))
     | (show Sto _ _ _ _; first
       | (refine Sto.lit 0 rfl rfl rfl ?_; conv => whnf))
     | (show DrawN _ _ _ _ _ _; first
       | (refine DrawN.run (by decide +kernel) ?_; conv => whnf))
    all_goals exact RetN.all rfl
  · have e : specSign n1 l1 m1 = (0, 1) := if_neg hk
    have e1 : spec1 (fun q => -q) n1 l1 m1 = (0, 1) := if_neg hk
    have e2 : spec1 absQ n1 l1 m1 = (0, 1) := if_neg hk
    obtain ⟨z, hz⟩ : ∃ z : Rat, z = 0 := ⟨_, rfl⟩
    rw [← hz] at e1 e2
    refine fn0_of_codeI ok D.law01_NumberSigns rfl ?_
    conv => whnf
    repeat ((first | refine opsI.step ?_ | refine codeI.step ?_); conv => whnf)
    repeat' first
     | (show CallN _ _ _ _ _ _; first
       | (refine CallN.fn rfl (NSign_ct _ (by assumption) _ _ _ l1 m1 (by assumption)) (fun v h' hl hr => ?_); rw [e] at hr; obtain rfl := (show v = .tuple #[.int .i64 0, .int .i64 1] from hr); conv => whnf)
       | (refine CallN.fn rfl (NNeg_ct _ (by (iterate 30 (try first | assumption | refine Tb.mono ?_ (by assumption))); first | done | assumption) _ _ _ l1 m1 (by (iterate 30 (try first | assumption | refine IsVal.mono ?_ (by assumption))); first | done | assumption)) (fun v h' hl hr => ?_); rw [e1] at hr; obtain ⟨x, y, rfl, hq⟩ := Res.two hr; conv => whnf)
       | (refine CallN.fn rfl (NAbs_ct _ (by (iterate 30 (try first | assumption | refine Tb.mono ?_ (by assumption))); first | done | assumption) _ _ _ l1 m1 (by (iterate 30 (try first | assumption | refine IsVal.mono ?_ (by assumption))); first | done | assumption)) (fun v h' hl hr => ?_); rw [e2] at hr; obtain ⟨x, y, rfl, hq⟩ := Res.two hr; conv => whnf)
       | (refine CallN.fn rfl (Large_f _ _ _ _ l1 m1 hk (by (iterate 30 (try first | assumption | refine IsVal.mono ?_ (by assumption))); first | done | assumption)) (fun v h' hl hr => ?_); obtain rfl := hr; conv => whnf)
       | (refine CallN.quiet rfl (None_z _ _ _ z hz (by (iterate 30 (try first | assumption | refine IsRat.mono ?_ (by assumption))); first | done | assumption)) ?_; conv => whnf)
       | (refine CallN.fn rfl (awake_ct _ (by (iterate 30 (try first | assumption | refine Tb.mono ?_ (by assumption))); first | done | assumption)) (fun v h' hl hr => ?_); obtain rfl := hr; conv => whnf))
     | ((first | refine opsI.step ?_ | refine codeI.step ?_); conv => whnf)
     | (intro (_ : Nat); conv => whnf)
     | (show cnd _ _ _; first
       | (refine cnd_eq (fun _ => ?_) (fun _ => ?_) <;> first | (exfalso; omega) | (conv => whnf)))
     | (show LdN _ _ _ _ _; first
       | (refine LdN.own 0 rfl rfl ?_; conv => whnf)
       | (refine LdN.own 1 rfl rfl ?_; conv => whnf)
       | (refine LdN.own 2 rfl rfl ?_; conv => whnf))
     | (show Sto _ _ _ _; first
       | (refine Sto.lit 0 rfl rfl rfl ?_; conv => whnf))
    all_goals exact RetN.all rfl
end Go.Proofs.YteblflmnhegmjaaDoor
