/- Package elem: the logarithm. -/
import Derived.Test.YtdemgbmndijkkaaGreatDoorEL4
import Derived.Test.YtdemgbmndijkkaaGreatDoorRB4
set_option linter.unusedVariables false
set_option linter.unusedSimpArgs false
namespace Go.Proofs.YtdemgbmndijkkaaGreatDoor
open Go Go.Vc Go.Dig
theorem mm_pos (z : Int) : mm true 0 z = (z.toNat : Int) := by unfold mm; simp; split <;> omega
theorem bl_lt (n : Nat) : n < 2 ^ bl n := bl_le_iff.1 (Nat.le_refl _)
theorem le_bl {n : Nat} (h : n ≠ 0) : 2 ^ (bl n - 1) ≤ n := by
  rcases Nat.lt_or_ge n (2 ^ (bl n - 1)) with g | g
  · have := bl_le_iff.2 g
    have := bl_pos_iff.2 h
    omega
  · exact g
/-- numerator and denominator, shifted so that both have the same bits -/
theorem same_bits {m n : Nat} (hm : m ≠ 0) (hn : n ≠ 0) {e0 : Int} (he : e0 = (bl m : Int) - bl n) : m * 2 ^ (-e0).toNat ≤ 2 * (n * 2 ^ e0.toNat) ∧ n * 2 ^ e0.toNat ≤ 2 * (m * 2 ^ (-e0).toNat) := by
  have a1 := bl_lt m; have a2 := le_bl hm; have b1 := bl_lt n; have b2 := le_bl hn
  have pm := bl_pos_iff.2 hm; have pn := bl_pos_iff.2 hn
  obtain ⟨u, hu⟩ : ∃ u, u = (-e0).toNat := ⟨_, rfl⟩
  obtain ⟨v, hv⟩ : ∃ v, v = e0.toNat := ⟨_, rfl⟩
  rw [← hu, ← hv]
  have k : bl m + u = bl n + v := by omega
  have c1 := Nat.mul_le_mul_right (2 ^ u) (Nat.le_of_lt a1)
  have c2 := Nat.mul_le_mul_right (2 ^ u) a2
  have d1 := Nat.mul_le_mul_right (2 ^ v) (Nat.le_of_lt b1)
  have d2 := Nat.mul_le_mul_right (2 ^ v) b2
  rw [← Nat.pow_add] at c1 c2 d1 d2
  obtain ⟨l, hl⟩ : ∃ l, bl m + u = l + 1 := ⟨bl m + u - 1, by omega⟩
  rw [hl] at c1
  rw [show bl m - 1 + u = l by omega] at c2
  rw [show bl n + v = l + 1 by omega] at d1
  rw [show bl n - 1 + v = l by omega] at d2
  rw [Nat.pow_succ] at c1 d1
  omega
theorem log_place {m n : Nat} (hm : m ≠ 0) (hn : n ≠ 0) {e0 e c : Int} (he0 : e0 = (bl m : Int) - bl n) (hc : c = cmpI (m * 2 ^ (-e0).toNat : Nat) (n * 2 ^ e0.toNat : Nat)) (he : e = if c < 0 then e0 - 1 else e0) :
    n * 2 ^ e.toNat ≤ m * 2 ^ (-e).toNat ∧ m * 2 ^ (-e).toNat ≤ 2 * (n * 2 ^ e.toNat) := by
  obtain ⟨s1, s2⟩ := same_bits hm hn he0
  by_cases h : c < 0
  · rw [if_pos h] at he
    have hlt : m * 2 ^ (-e0).toNat < n * 2 ^ e0.toNat := by
      rw [hc] at h
      unfold cmpI at h
      split at h
      · rename_i g; omega
      · split at h <;> omega
    by_cases h0 : 1 ≤ e0
    · have e1 : (-e0).toNat = 0 := by omega
      have e2 : (-e).toNat = 0 := by omega
      have e3 : e0.toNat = e.toNat + 1 := by omega
      rw [e1, e3] at s1 s2 hlt
      rw [e2]
      rw [Nat.pow_succ, ← Nat.mul_assoc] at s1 s2 hlt
      omega
    · have e1 : e0.toNat = 0 := by omega
      have e2 : e.toNat = 0 := by omega
      have e3 : (-e).toNat = (-e0).toNat + 1 := by omega
      rw [e1] at s1 s2 hlt
      rw [e2, e3, Nat.pow_succ, ← Nat.mul_assoc]
      omega
  · rw [if_neg h] at he
    have hge : n * 2 ^ e0.toNat ≤ m * 2 ^ (-e0).toNat := by
      rw [hc] at h
      unfold cmpI at h
      split at h
      · omega
      · split at h <;> omega
    rw [he]; exact ⟨hge, s1⟩
set_option maxRecDepth 20000 in
set_option maxHeartbeats 4000000 in
theorem ellog_ct (h : Heap) (tb : Tb h) (a b : Sl) (q : Rat) (neg : Bool) (p : Nat) (x : Int) (hx : x = p) (hq : IsRat h a b q) (hf : fits q) (h0 : nu q ≠ 0) (hb1 : bl (nu q) ≤ 1024) (hb2 : bl q.den ≤ 1024) (hp : p ≤ 128) :
    Fn0 T F.elem_log [.agg #[.bool neg, a.val, b.val], .int .i64 x] h fun v h' => ∃ v' lo hi, v = .tuple #[v', .int .i64 0] ∧ BrR h' v' lo hi ∧ An.LogB ((nu q : Rat) / (q.den : Rat)) lo hi := by
  subst hx
  have hd0 := q.den_nz
  have nn : Nz h a (nu q) 64 := ⟨hq.num, hf.1⟩
  have wh := fun h w => whole_ct h neg a b q w (Nat.le_trans hf.2 (by omega))
  obtain ⟨m, hm⟩ : ∃ m, m = nu q := ⟨_, rfl⟩
  obtain ⟨n, hn⟩ : ∃ n, n = q.den := ⟨_, rfl⟩
  rw [← hm] at h0 hb1 nn ⊢
  rw [← hn] at hd0 hb2 wh ⊢
  obtain ⟨e0, he0⟩ : ∃ e0 : Int, e0 = (bl m : Int) - bl n := ⟨_, rfl⟩
  obtain ⟨u1, hu1⟩ : ∃ u, u = (-e0).toNat := ⟨_, rfl⟩
  obtain ⟨v1, hv1⟩ : ∃ u, u = e0.toNat := ⟨_, rfl⟩
  obtain ⟨c, hc⟩ : ∃ c, c = cmpI (m * 2 ^ (-e0).toNat : Nat) (n * 2 ^ e0.toNat : Nat) := ⟨_, rfl⟩
  obtain ⟨e, he⟩ : ∃ e : Int, e = if c < 0 then e0 - 1 else e0 := ⟨_, rfl⟩
  obtain ⟨p1, p2⟩ := log_place h0 hd0 he0 hc he
  obtain ⟨u2, hu2⟩ : ∃ u, u = (-e).toNat := ⟨_, rfl⟩
  obtain ⟨v2, hv2⟩ : ∃ u, u = e.toNat := ⟨_, rfl⟩
  rw [← hu2, ← hv2] at p1 p2
  rw [← hu1, ← hv1] at hc
  have hce : (c < 0 ∧ e = e0 - 1) ∨ (¬ c < 0 ∧ e = e0) := by
    by_cases g : c < 0
    · rw [if_pos g] at he; exact .inl ⟨g, he⟩
    · rw [if_neg g] at he; exact .inr ⟨g, he⟩
  clear he
  obtain ⟨w, hw⟩ : ∃ w, w = p + 32 := ⟨_, rfl⟩
  obtain ⟨N, hN⟩ : ∃ N, N = m * 2 ^ u2 := ⟨_, rfl⟩
  obtain ⟨M, hM⟩ : ∃ N, N = n * 2 ^ v2 := ⟨_, rfl⟩
  have hM0 : 0 < M := by rw [hM]; exact Nat.mul_pos (Nat.pos_of_ne_zero hd0) (Nat.two_pow_pos _)
  have hup : Hq (0 ≤ e → N = m ∧ v2 = e.toNat) := ⟨fun g => ⟨by rw [hN, show u2 = 0 by omega, Nat.pow_zero, Nat.mul_one], hv2⟩⟩
  have hdn : Hq (¬ 0 ≤ e → M = n) := ⟨fun g => by rw [hM, show v2 = 0 by omega, Nat.pow_zero, Nat.mul_one]⟩
  rw [← hN, ← hM] at p1 p2
  obtain ⟨ta, tb', -, -⟩ := An.log_two (w := w) (by omega)
  obtain ⟨fa, fb, -, -⟩ := An.log_frac (w := w) (by omega) p1 p2 hM0
  have eN : m * 2 ^ u2 = N := hN.symm
  have eM : n * 2 ^ v2 = M := hM.symm
  obtain ⟨t1, ht1⟩ : ∃ t, t = An.logsA (2 ^ w / 3) (An.cd (2 ^ w) 3) w := ⟨_, rfl⟩
  obtain ⟨al, hal⟩ : ∃ t, t = (N - M) * 2 ^ w / (N + M) := ⟨_, rfl⟩
  obtain ⟨ah, hah⟩ : ∃ t, t = An.cd ((N - M) * 2 ^ w) (N + M) := ⟨_, rfl⟩
  have k1 := fun h tb s t ns nt => logs_ct h tb s t (2 ^ w / 3) (An.cd (2 ^ w) 3) w (p + 32 : Int) (by omega) ns nt ta tb' (by omega)
  rw [← ht1] at k1
  rw [← hal] at fa
  rw [← hah] at fb
  have k2 := fun h tb s t ns nt => logs_ct h tb s t al ah w (p + 32 : Int) (by omega) ns nt fa fb (by omega)
  obtain ⟨t2, ht2⟩ : ∃ t, t = An.logsA al ah w := ⟨_, rfl⟩
  rw [← ht2] at k2
  have lw : ln 4294967296 (2 ^ w) ≤ 60 := ln_two_pow_le (by omega)
  have l1 : ln 4294967296 al ≤ 60 := Nat.le_trans (ln_le_of_le (show al ≤ 2 ^ w by omega)) lw
  have l2 : ln 4294967296 ah ≤ 60 := Nat.le_trans (ln_le_of_le (show ah ≤ 2 ^ w by omega)) lw
  have q1 := An.logs_le ta tb'
  have q2 := An.logs_le fa fb
  rw [← ht1] at q1
  rw [← ht2] at q2
  have lg1 : 0 ≤ e → An.LogB ((m : Rat) / (n : Rat)) (mkQ false ((t1.1 * v2 + t2.1) / 2 ^ (w - p)) (2 ^ p)) (mkQ false (An.cd (t1.2 * v2 + t2.2) (2 ^ (w - p))) (2 ^ p)) := fun g => by
    have e1 := (hup.out g).1
    rw [mkQ_pow2, mkQ_pow2]
    exact An.log_up (num := m) (den := n) (n := v2) (w := w) (p := p) (by omega) (by omega) (by rw [eM, ← e1]; exact p1) (by rw [eM, ← e1]; exact p2) (Nat.pos_of_ne_zero hd0) (by rw [ht1]) (by rw [ht1]) (by rw [ht2, hal, hah, eM, ← e1]) (by rw [ht2, hal, hah, eM, ← e1])
  have lg2 : ¬ 0 ≤ e → An.LogB ((m : Rat) / (n : Rat)) (gridQ (mkQ false t2.1 (2 ^ w) - mkQ false (t1.2 * u2) (2 ^ w)) p false) (gridQ (mkQ false t2.2 (2 ^ w) - mkQ false (t1.1 * u2) (2 ^ w)) p true) := fun g => by
    have e1 := hdn.out g
    have g1 := grid_le (mkQ false t2.1 (2 ^ w) - mkQ false (t1.2 * u2) (2 ^ w)) p
    have g2 := le_grid (mkQ false t2.2 (2 ^ w) - mkQ false (t1.1 * u2) (2 ^ w)) p
    rw [mkQ_pow2, mkQ_pow2] at g1 g2
    rw [mkQ_pow2, mkQ_pow2, mkQ_pow2, mkQ_pow2]
    exact An.log_dn (num := m) (den := n) (n := u2) (w := w) (by omega) (by rw [eN, ← e1]; exact p1) (by rw [eN, ← e1]; exact p2) (Nat.pos_of_ne_zero hd0) (by rw [ht1]) (by rw [ht1]) (by rw [ht2, hal, hah, eN, ← e1]) (by rw [ht2, hal, hah, eN, ← e1]) g1 g2
  replace lg1 := Hq.mk lg1
  replace lg2 := Hq.mk lg2
  have hNM0 : N + M ≠ 0 := by omega
  have h30 : (3 : Nat) ≠ 0 := by decide
  have hu2' : u2 ≤ 1025 := by omega
  have hv2' : v2 ≤ 1025 := by omega
  have bnd : ∀ s k : Nat, s ≤ 2 * 2 ^ w → k ≤ 1025 → s * k ≤ 2 ^ (w + 13) := fun s k h1 h2 => by
    have := Nat.mul_le_mul h1 h2
    rw [Nat.pow_add]
    omega
  have bnd2 : ∀ s k r : Nat, s ≤ 2 * 2 ^ w → k ≤ 1025 → r ≤ 2 * 2 ^ w → s * k + r ≤ 2 ^ (w + 13) := fun s k r h1 h2 h3 => by
    have := Nat.mul_le_mul h1 h2
    rw [Nat.pow_add]
    omega
  have bnd3 : ∀ r : Nat, r ≤ 2 * 2 ^ w → r ≤ 2 ^ (w + 13) := fun r h3 => by
    rw [Nat.pow_add]
    omega
  have c1 := bnd _ _ q1.1 hu2'
  have c2 := bnd _ _ q1.2 hu2'
  have c3 := bnd3 _ q2.1
  have c4 := bnd3 _ q2.2
  have c5 := bnd2 _ _ _ q1.1 hv2' q2.1
  have c6 := bnd2 _ _ _ q1.2 hv2' q2.2
  have x1 : ln 4294967296 ((t1.1 * v2 + t2.1) / 2 ^ (w - p)) ≤ 64 := Nat.le_trans (ln_div _ _) (ln_of_le2 c5 (by omega))
  have x2 : ln 4294967296 (An.cd (t1.2 * v2 + t2.2) (2 ^ (w - p))) ≤ 64 := Nat.le_trans (ln_le_of_le (An.cd_le (Nat.le_mul_of_pos_right _ (Nat.two_pow_pos _)) (Nat.two_pow_pos _))) (ln_of_le2 c6 (by omega))
  have kb := fun h tb s t k ns nt hk => bracket_ct h tb s t (t1.1 * v2 + t2.1) (t1.2 * v2 + t2.2) k w p (p + 32 : Int) p (by omega) rfl ns nt hk (by omega) (by omega) x1 x2
  have kl := fun h tb s1 s2 s3 s4 k n1 n2 n3 n4 => below_ct h tb s1 s2 s3 s4 (t1.2 * u2) t2.1 (t1.1 * u2) t2.2 k (w + 13) w p (p + 32 : Int) p (by omega) rfl n1 n2 n3 n4 c2 c3 c1 c4 (by omega) (by omega) (by omega)
  obtain ⟨P1, hP1⟩ : ∃ x, x = t1.1 := ⟨_, rfl⟩
  obtain ⟨P2, hP2⟩ : ∃ x, x = t1.2 := ⟨_, rfl⟩
  obtain ⟨P3, hP3⟩ : ∃ x, x = t2.1 := ⟨_, rfl⟩
  obtain ⟨P4, hP4⟩ : ∃ x, x = t2.2 := ⟨_, rfl⟩
  rw [← hP1, ← hP2] at k1
  rw [← hP3, ← hP4] at k2
  rw [← hP1, ← hP2, ← hP3, ← hP4] at kb kl lg1 lg2
  clear bnd bnd2 bnd3 c1 c2 c3 c4 c5 c6 x1 x2 ht1 ht2 hP1 hP2 hP3 hP4 q1 q2 lw hup hdn hm hn
  replace hN := Hq.mk hN
  replace hM := Hq.mk hM
  replace hal := Hq.mk hal
  replace hah := Hq.mk hah
  refine fn0_of_codeI ok D.elem_log rfl ?_
  conv => whnf
  repeat ((first | refine opsI.step ?_ | refine codeI.step ?_); conv => whnf)
  repeat' first
   | (show SeqN _ _ _ _ _ _ _; first
     | (refine SeqN.go ?_; conv => whnf))
   | (show CallN _ _ _ _ _ _; first
     | (refine CallN.fn rfl (OfZ _ _ _ _ (Nz.mono (by assumption) (by (iterate 30 (try first | assumption | exact Heap.le_refl _)); first | done | assumption)) (by omega)) (fun v h' hl hr => ?_); obtain ⟨s', rfl, hs'⟩ := hr; conv => whnf)
     | (refine CallN.fn rfl (wh _ (by (iterate 30 (try first | assumption | refine IsRat.mono ?_ (by assumption))); first | done | assumption)) (fun v h' hl hr => ?_); obtain ⟨s', rfl, hs'⟩ := hr; conv => whnf)
     | (refine CallN.quiet rfl (BitsZ _ _ _ _ (Nz.mono (by assumption) (by (iterate 30 (try first | assumption | exact Heap.le_refl _)); first | done | assumption)) (by omega)) ?_; conv => whnf)
     | (refine CallN.fn rfl (ShlZ _ _ _ _ u1 _ (by rw [mm_pos]; omega) (Nz.mono (by assumption) (by assumption)) (by omega) (by omega)) (fun v h' hl hr => ?_); obtain ⟨s', rfl, hs'⟩ := hr; conv => whnf)
     | (refine CallN.fn rfl (ShlZ _ _ _ _ v1 _ (by rw [mm_pos]; omega) (Nz.mono (by assumption) (by assumption)) (by omega) (by omega)) (fun v h' hl hr => ?_); obtain ⟨s', rfl, hs'⟩ := hr; conv => whnf)
     | (refine CallN.quiet rfl (CmpZ _ _ _ _ _ _ _ (Nz.mono (by assumption) (by assumption)) (Nz.mono (by assumption) (by (iterate 30 (try first | assumption | exact Heap.le_refl _)); first | done | assumption)) (by omega) (by omega)) ?_; rw [← hc]; clear hu1 hv1 hc; conv => whnf)
     | (refine CallN.fn rfl (ShlZ _ _ _ _ u2 _ (by rw [mm_pos]; omega) (Nz.mono (by assumption) (by (iterate 30 (try first | assumption | refine Heap.le_trans ?_ (by assumption))); first | done | assumption)) (by omega) (by omega)) (fun v h' hl hr => ?_); rw [eN] at hr; obtain ⟨s', rfl, hs'⟩ := hr; conv => whnf)
     | (refine CallN.fn rfl (ShlZ _ _ _ _ v2 _ (by rw [mm_pos]; omega) (Nz.mono (by assumption) (by (iterate 30 (try first | assumption | refine Heap.le_trans ?_ (by assumption))); first | done | assumption)) (by omega) (by omega)) (fun v h' hl hr => ?_); rw [eM] at hr; obtain ⟨s', rfl, hs'⟩ := hr; conv => whnf)
     | (refine CallN.fn rfl (SubZ _ _ _ _ _ _ _ (Nz.mono (by assumption) (by assumption)) (Nz.mono (by assumption) (by (iterate 30 (try first | assumption | exact Heap.le_refl _)); first | done | assumption)) (by omega) p1) (fun v h' hl hr => ?_); obtain ⟨s', rfl, hs'⟩ := hr; conv => whnf)
     | (refine CallN.fn rfl (ShlZ _ _ _ _ w _ (by omega) (Nz.mono (by assumption) (by (iterate 30 (try first | assumption | exact Heap.le_refl _)); first | done | assumption)) (by omega) (by omega)) (fun v h' hl hr => ?_); obtain ⟨s', rfl, hs'⟩ := hr; conv => whnf)
     | (refine CallN.fn rfl (SmallZ _ 3 (by omega)) (fun v h' hl hr => ?_); obtain ⟨s', rfl, hs'⟩ := hr; conv => whnf)
     | (refine CallN.fn rfl (unit_ct _ w _ (by omega) (by omega)) (fun v h' hl hr => ?_); obtain ⟨s', rfl, hs'⟩ := hr; conv => whnf)
     | (refine CallN.fn rfl (over_ct _ _ _ _ _ _ _ false (Nz.mono (by assumption) (by (iterate 30 (try first | assumption | exact Heap.le_refl _)); first | done | assumption)) (Nz.mono (by assumption) (by (iterate 30 (try first | assumption | exact Heap.le_refl _)); first | done | assumption)) (by omega) (by omega) (by first | exact hNM0 | exact h30)) (fun v h' hl hr => ?_); obtain ⟨s', rfl, hs'⟩ := hr; replace hs' := Nz.re hs' (if_neg (by decide)); conv => whnf)
     | (refine CallN.fn rfl (over_ct _ _ _ _ _ _ _ true (Nz.mono (by assumption) (by (iterate 30 (try first | assumption | refine Heap.le_trans ?_ (by assumption))); first | done | assumption)) (Nz.mono (by assumption) (by (iterate 30 (try first | assumption | exact Heap.le_refl _)); first | done | assumption)) (by omega) (by omega) (by first | exact hNM0 | exact h30)) (fun v h' hl hr => ?_); obtain ⟨s', rfl, hs'⟩ := hr; replace hs' := Nz.re hs' (if_pos rfl); conv => whnf)
     | (refine CallN.fn rfl (k1 _ (by (iterate 30 (try first | assumption | refine Tb.mono ?_ (by assumption))); first | done | assumption) _ _ (Nz.up (Nz.mono (by assumption) (by (iterate 30 (try first | assumption | refine Heap.le_trans ?_ (by assumption))); first | done | assumption)) (by omega)) (Nz.up (Nz.mono (by assumption) (by (iterate 30 (try first | assumption | exact Heap.le_refl _)); first | done | assumption)) (by omega))) (fun v h' hl hr => ?_); obtain ⟨s', t', rfl, hs', ht'⟩ := hr; conv => whnf)
     | (refine CallN.fn rfl (k2 _ (by (iterate 30 (try first | assumption | refine Tb.mono ?_ (by assumption))); first | done | assumption) _ _ (Nz.up (Nz.by_ln (Nz.re (Nz.mono (by assumption) (by assumption)) hal.out.symm) l1) (by omega)) (Nz.up (Nz.by_ln (Nz.re (Nz.mono (by assumption) (by (iterate 30 (try first | assumption | exact Heap.le_refl _)); first | done | assumption)) hah.out.symm) l2) (by omega))) (fun v h' hl hr => ?_); obtain ⟨s', t', rfl, hs', ht'⟩ := hr; conv => whnf)
     | (refine CallN.fn rfl (AddZ _ _ _ _ _ _ _ (Nz.mono (by assumption) (by (iterate 30 (try first | assumption | exact Heap.le_refl _ | refine Heap.le_trans ?_ (by assumption))); first | done | assumption)) (Nz.mono (by assumption) (by (iterate 30 (try first | assumption | refine Heap.le_trans ?_ (by assumption))); first | done | assumption)) (by omega) (by omega)) (fun v h' hl hr => ?_); obtain ⟨s', rfl, hs'⟩ := hr; conv => whnf)
     | (refine CallN.fn rfl (MulZ _ _ _ _ _ _ _ (Nz.mono (by assumption) (by (iterate 30 (try first | assumption | refine Heap.le_trans ?_ (by assumption))); first | done | assumption)) (Nz.mono (by assumption) (by (iterate 30 (try first | assumption | exact Heap.le_refl _ | refine Heap.le_trans ?_ (by assumption))); first | done | assumption)) (by omega) (by omega)) (fun v h' hl hr => ?_); obtain ⟨s', rfl, hs'⟩ := hr; conv => whnf)
     | (refine CallN.fn rfl (SmallZ _ v2 (by omega)) (fun v h' hl hr => ?_); obtain ⟨s', rfl, hs'⟩ := hr; conv => whnf)
     | (refine CallN.fn rfl (SmallZ _ u2 (by omega)) (fun v h' hl hr => ?_); obtain ⟨s', rfl, hs'⟩ := hr; conv => whnf)
     | (refine CallN.fn rfl (kb _ (by (iterate 30 (try first | assumption | refine Tb.mono ?_ (by assumption))); first | done | assumption) _ _ _ (Nz.up (Nz.mono (by assumption) (by (iterate 30 (try first | assumption | refine Heap.le_trans ?_ (by assumption))); first | done | assumption)) (show _ ≤ 5000 by omega)) (Nz.up (Nz.mono (by assumption) (by (iterate 30 (try first | assumption | exact Heap.le_refl _)); first | done | assumption)) (by omega)) (by omega)) (fun v h' hl hr => ?_); obtain ⟨a', b', c', d', rfl, hr1, hr2, hr3, hr4⟩ := hr; conv => whnf)
     | (refine CallN.fn rfl (kl _ (by (iterate 30 (try first | assumption | refine Tb.mono ?_ (by assumption))); first | done | assumption) _ _ _ _ _ (Nz.up (Nz.mono (by assumption) (by assumption)) (show _ ≤ 5000 by omega)) (Nz.up (Nz.mono (by assumption) (by (iterate 30 (try first | assumption | refine Heap.le_trans ?_ (by assumption))); first | done | assumption)) (by omega)) (Nz.up (Nz.mono (by assumption) (by (iterate 30 (try first | assumption | exact Heap.le_refl _)); first | done | assumption)) (by omega)) (Nz.up (Nz.mono (by assumption) (by (iterate 30 (try first | assumption | refine Heap.le_trans ?_ (by assumption))); first | done | assumption)) (by omega))) (fun v h' hl hr => ?_); obtain ⟨a', b', c', d', rfl, hr1, hr2, hr3, hr4⟩ := hr; conv => whnf))
   | (show WrapN _ _ _; first
     | (refine WrapN.u64v v2 (by omega) ?_; conv => whnf)
     | (refine WrapN.u64v u2 (by omega) ?_; conv => whnf)
     | (refine WrapN.i64 (by omega) (by omega) ?_; conv => whnf))
   | ((first | refine opsI.step ?_ | refine codeI.step ?_); conv => whnf)
   | (refine ⟨fun _ => HasLe.of_le (by assumption), ?_⟩; conv => whnf)
   | (refine ⟨fun hst => (by cases (show true = false from hst)), ?_⟩; conv => whnf)
   | (intro (_ : Nat); conv => whnf)
   | (show cnd _ _ _; first
     | (refine cnd_lt (fun _ => ?_) (fun _ => ?_) <;> first | (exfalso; omega) | (conv => whnf))
     | (refine cnd_le (fun _ => ?_) (fun _ => ?_) <;> first | (exfalso; omega) | (conv => whnf)))
   | (show LdN _ _ _ _ _; first
     | (refine LdN.own 1 rfl rfl ?_; conv => whnf)
     | (refine LdN.own 2 rfl rfl ?_; conv => whnf))
   | (show Ld _ _ _ _; first
     | (refine Ld.own 0 rfl rfl ?_; conv => whnf)
     | (refine Ld.own 1 rfl rfl ?_; conv => whnf))
   | (show Sto _ _ _ _; first
     | (refine Sto.lit 0 rfl rfl rfl ?_; conv => whnf)
     | (refine Sto.lit 2 rfl rfl rfl ?_; conv => whnf))
   | (show DrawN _ _ _ _ _ _; first
     | (refine DrawN.run (by decide +kernel) ?_; conv => whnf))
  all_goals first
    | exact RetN.all ⟨_, _, _, rfl, ⟨_, _, _, _, rfl, (by assumption), (by assumption), hr3, hr4⟩, lg1.out (by omega)⟩
    | exact RetN.all ⟨_, _, _, rfl, ⟨_, _, _, _, rfl, (by assumption), (by assumption), hr3, hr4⟩, lg2.out (by omega)⟩
    | skip
end Go.Proofs.YtdemgbmndijkkaaGreatDoor