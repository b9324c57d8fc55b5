/- Package elem: the exponential. -/
import Derived.Test.YtdemgbmndijkkaaGreatDoorEL1
set_option linter.unusedVariables false
set_option linter.unusedSimpArgs false
namespace Go.Proofs.YtdemgbmndijkkaaGreatDoor
open Go Go.Vc Go.Dig
set_option maxRecDepth 20000 in
set_option maxHeartbeats 1000000 in
theorem elexp_ct (h : Heap) (tb : Tb h) (a b : Sl) (q : Rat) (neg : Bool) (p : Nat) (x : Int) (hx : x = p) (hq : IsRat h a b q) (hf : fits q) (h64 : nu q ≤ 64 * q.den) (hp : p ≤ 128) :
    Fn0 T F.elem_exp [.agg #[.bool neg, a.val, b.val], .int .i64 x] h fun v h' => ∃ v', v = .tuple #[v', .int .i64 0] ∧
      BrR h' v' (mkQ false (An.expA neg (nu q * 2 ^ (p + 112) / q.den) (An.cd (nu q * 2 ^ (p + 112)) q.den) p).1 (2 ^ p)) (mkQ false (An.expA neg (nu q * 2 ^ (p + 112) / q.den) (An.cd (nu q * 2 ^ (p + 112)) q.den) p).2 (2 ^ p)) := by
  subst hx
  have sc := fun h (x : Int) (hx : x = ((p + 112 : Nat) : Int)) tb hq => scaled_ct h tb neg a b q (p + 112) x hx hq (fits_sz64 hf) (by omega)
  have hd0 := Nat.pos_of_ne_zero q.den_nz
  have hle : nu q * 2 ^ (p + 112) ≤ 64 * 2 ^ (p + 112) * q.den := by
    have := Nat.mul_le_mul_right (2 ^ (p + 112)) h64
    rw [Nat.mul_right_comm] at this; exact this
  have hyl := An.div_le_nat hle hd0
  have hyh := An.cd_le hle hd0
  obtain ⟨yl, hyl'⟩ : ∃ y, y = nu q * 2 ^ (p + 112) / q.den := ⟨_, rfl⟩
  obtain ⟨yh, hyh'⟩ : ∃ y, y = An.cd (nu q * 2 ^ (p + 112)) q.den := ⟨_, rfl⟩
  rw [← hyl'] at sc hyl ⊢
  rw [← hyh'] at sc hyh ⊢
  have eA : An.expA neg yl yh p = if neg then (2 ^ (p + 112 + p) / An.sqHi (p + 112) (An.expHi yh (p + 112) 40) 8, An.cd (2 ^ (p + 112 + p)) (An.sqLo (p + 112) (An.expLo yl (p + 112) 40) 8)) else (An.sqLo (p + 112) (An.expLo yl (p + 112) 40) 8 / 2 ^ (p + 112 - p), An.cd (An.sqHi (p + 112) (An.expHi yh (p + 112) 40) 8) (2 ^ (p + 112 - p))) := rfl
  obtain ⟨A, hA⟩ : ∃ A, A = An.expA neg yl yh p := ⟨_, rfl⟩
  rw [← hA] at eA ⊢
  clear hA
  obtain ⟨w, hw⟩ : ∃ w, w = p + 112 := ⟨_, rfl⟩
  rw [← hw] at sc hyl hyh eA
  clear hyl' hyh' hle h64 hd0
  have b1 := fun k => Nat.le_trans (ln_le_of_le (An.expLo_le2 hyl k)) (show ln 4294967296 (2 * 2 ^ w) ≤ 60 by rw [Nat.mul_comm, ← Nat.pow_succ]; exact ln_two_pow_le (by omega))
  have b2 := fun k hk => Nat.le_trans (ln_le_of_le (An.expHi_le2 hyh k hk)) (show ln 4294967296 (2 * 2 ^ w) ≤ 60 by rw [Nat.mul_comm, ← Nat.pow_succ]; exact ln_two_pow_le (by omega))
  have c1 : An.expLo yl w 40 ≤ 2 ^ (w + 1) := by have := An.expLo_le2 hyl 40; rw [Nat.pow_succ]; omega
  have c2 : An.expHi yh w 40 ≤ 2 ^ (w + 1) := by have := An.expHi_le2 hyh 40 (Nat.le_refl _); rw [Nat.pow_succ]; omega
  have c3 := An.expLo_ge yl w 40
  have b3 := fun k (hk : k ≤ 8) => Nat.le_trans (ln_le_of_le (Nat.le_trans (An.sqLo_le c1 k) (An.pow_k_le hk))) (show ln 4294967296 (2 ^ (w + 256)) ≤ 60 from ln_two_pow_le (by omega))
  have b4 := fun k (hk : k ≤ 8) => Nat.le_trans (ln_le_of_le (Nat.le_trans (An.sqHi_le c2 k) (An.pow_k_le hk))) (show ln 4294967296 (2 ^ (w + 256)) ≤ 60 from ln_two_pow_le (by omega))
  have g1 := An.sqLo_ge c3 8
  have g0 := An.sqHi_ge (An.expHi_ge yh w 40) 8
  clear c3 hyl hyh
  replace b2 := Hq.mk b2
  replace b3 := Hq.mk b3
  replace b4 := Hq.mk b4
  replace c1 := Hq.mk c1
  replace c2 := Hq.mk c2
  replace g1 := Hq.mk g1
  replace g0 := Hq.mk g0
  refine fn0_of_codeI ok D.elem_exp rfl ?_
  conv => whnf
  repeat ((first | refine opsI.step ?_ | refine codeI.step ?_); conv => whnf)
  repeat' first
   | (show CallN _ _ _ _ _ _; first
     | (refine CallN.fn rfl (sc _ _ (by omega) (by assumption) (by assumption)) (fun v h' hl hr => ?_); obtain ⟨s', t', rfl, hs', ht'⟩ := hr; conv => whnf)
     | (refine CallN.fn rfl (unit_ct _ w _ (by omega) (by omega)) (fun v h' hl hr => ?_); obtain ⟨s', rfl, hs'⟩ := hr; conv => whnf)
     | (refine CallN.fn rfl (ShlZ _ _ _ _ 1 _ rfl (Nz.mono (by assumption) (by (iterate 30 (try first | assumption | exact Heap.le_refl _)); first | done | assumption)) (by omega) (by omega)) (fun v h' hl hr => ?_); obtain ⟨s', rfl, hs'⟩ := hr; conv => whnf))
   | ((first | refine opsI.step ?_ | refine codeI.step ?_); conv => whnf)
   | (intro (_ : Nat); conv => whnf)
   | (show WrapN _ _ _; first
     | (refine WrapN.i64 (by omega) (by omega) ?_; conv => whnf))
   | (show LdN _ _ _ _ _; first
     | (refine LdN.own 1 rfl rfl ?_; conv => whnf))
   | (show Sto _ _ _ _; first
     | (refine Sto.lit 0 rfl rfl rfl ?_; conv => whnf))
  refine LoopN.keepL (fun r ρ hx => ∃ (k : Nat) (s8 s9 : Sl), r = 40 - k ∧ k ≤ 40 ∧ rd ρ 10 = .int .u32 ((40 - k : Nat) : Int) ∧ rd ρ 8 = s8.val ∧ rd ρ 9 = s9.val ∧ Nz hx s8 (An.expLo yl w k) 60 ∧ Nz hx s9 (An.expHi yh w k) 60) 40
    ⟨0, _, _, rfl, by omega, rfl, rfl, rfl, Nz.by_ln (Nz.mono (by assumption) (by (iterate 30 (try first | assumption | refine Heap.le_trans ?_ (by assumption))); first | done | assumption)) (b1 0), Nz.by_ln (Nz.re (Nz.mono (by assumption) (by (iterate 30 (try first | assumption | exact Heap.le_refl _)); first | done | assumption)) (by rw [An.expHi, Nat.pow_one])) (b2.out 0 (by omega))⟩ ?_
  conv => whnf
  repeat intro _
  rename_i r hy hle2 hI
  obtain ⟨k, s8, s9, rfl, hk, e10, e8, e9, n8, n9⟩ := hI
  conv at e10 => lhs; whnf
  subst e10
  conv at e8 => lhs; whnf
  subst e8
  conv at e9 => lhs; whnf
  subst e9
  have d1 := b1 (k + 1)
  have d2 := fun hk2 => b2.out (k + 1) hk2
  have e1 : An.expLo yl w (k + 1) = 2 ^ w + yl * An.expLo yl w k / 2 ^ (w + 8) / (40 - k) := rfl
  have e2 : An.expHi yh w (k + 1) = 2 ^ w + An.cd (An.cd (yh * An.expHi yh w k) (2 ^ (w + 8))) (40 - k) := rfl
  replace d2 := Hq.mk d2
  by_cases hk40 : k = 40
  · subst hk40
    obtain ⟨lo, hlo⟩ : ∃ l, l = An.expLo yl w 40 := ⟨_, rfl⟩
    obtain ⟨hi, hhi⟩ : ∃ l, l = An.expHi yh w 40 := ⟨_, rfl⟩
    rw [← hlo] at n8 b3 c1 g1 eA
    rw [← hhi] at n9 b4 c2 g0 eA
    clear e1 e2 d1 d2 b1 b2 hlo hhi
    conv => whnf
    repeat ((first | refine opsI.step ?_ | refine codeI.step ?_); conv => whnf)
    repeat' first
     | ((first | refine opsI.step ?_ | refine codeI.step ?_); conv => whnf)
     | (show cnd _ _ _; first
       | (refine cnd_le (fun _ => ?_) (fun _ => ?_) <;> first | (exfalso; omega) | (conv => whnf)))
    refine LoopN.keepL (fun r ρ hx => ∃ (j : Nat) (s8 s9 : Sl), r = 8 - j ∧ j ≤ 8 ∧ rd ρ 58 = .int .i64 j ∧ rd ρ 8 = s8.val ∧ rd ρ 9 = s9.val ∧ Nz hx s8 (An.sqLo w lo j) 60 ∧ Nz hx s9 (An.sqHi w hi j) 60) 8
      ⟨0, _, _, rfl, by omega, rfl, rfl, rfl, n8, n9⟩ ?_
    conv => whnf
    repeat intro _
    rename_i r hz hle3 hI
    obtain ⟨j, s8, s9, rfl, hj, e58, e8, e9, m8, m9⟩ := hI
    conv at e58 => lhs; whnf
    subst e58
    conv at e8 => lhs; whnf
    subst e8
    conv at e9 => lhs; whnf
    subst e9
    by_cases hj8 : j = 8
    · subst hj8
      have k3 := b3.out 8 (Nat.le_refl _)
      have k4 := b4.out 8 (Nat.le_refl _)
      obtain ⟨l8, hl8⟩ : ∃ l, l = An.sqLo w lo 8 := ⟨_, rfl⟩
      obtain ⟨h8, hh8⟩ : ∃ l, l = An.sqHi w hi 8 := ⟨_, rfl⟩
      have g2 := g1.out
      have g4 := g0.out
      rw [← hl8] at m8 eA k3 g2
      rw [← hh8] at m9 eA k4 g4
      have g3 := Nat.two_pow_pos w
      clear hl8 hh8 b3 b4 c1 c2 g1 g0
      by_cases hng : neg = true
      · subst hng
        rw [if_pos rfl] at eA
        obtain ⟨u, hu⟩ : ∃ u, u = w + p := ⟨_, rfl⟩
        rw [← hu] at eA
        have hu2 := ln_two_pow_le (n := u) (k := 60) (by omega)
        have hl0 : l8 ≠ 0 := by omega
        have hh0 : h8 ≠ 0 := by omega
        have x1 : ln 4294967296 (2 ^ u / h8) ≤ 64 := Nat.le_trans (ln_div _ _) (by omega)
        have x2 : ln 4294967296 (An.cd (2 ^ u) l8) ≤ 64 := Nat.le_trans (ln_le_of_le (An.cd_le (Nat.le_mul_of_pos_right _ (Nat.pos_of_ne_zero hl0)) (Nat.pos_of_ne_zero hl0))) (by omega)
        have k1 := fun h tb s ns => rational_ct h tb s (2 ^ u / h8) 2100 p false p rfl ns x1 (by omega)
        have k2 := fun h tb s ns => rational_ct h tb s (An.cd (2 ^ u) l8) 2100 p false p rfl ns x2 (by omega)
        clear g2 g3 g4 k3 k4
        subst eA
        conv => whnf
        repeat ((first | refine opsI.step ?_ | refine codeI.step ?_); conv => whnf)
        repeat' first
         | (show CallN _ _ _ _ _ _; first
           | (refine CallN.fn rfl (unit_ct _ u _ (by omega) (by omega)) (fun v h' hl hr => ?_); obtain ⟨s', rfl, hs'⟩ := hr; conv => whnf)
           | (refine CallN.fn rfl (over_ct _ _ _ _ _ _ _ false (Nz.mono (by assumption) (by (iterate 30 (try first | assumption | exact Heap.le_refl _)); first | done | assumption)) (m9.mono (by (iterate 30 (try first | assumption | refine Heap.le_trans ?_ (by assumption))); first | done | assumption)) (by omega) (by omega) hh0) (fun v h' hl hr => ?_); obtain ⟨s', rfl, hs'⟩ := hr; replace hs' := Nz.up (Nz.re hs' (if_neg (by decide))) (show _ ≤ 2100 by omega); conv => whnf)
           | (refine CallN.fn rfl (over_ct _ _ _ _ _ _ _ true (Nz.mono (by assumption) (by (iterate 30 (try first | assumption | refine Heap.le_trans ?_ (by assumption))); first | done | assumption)) (m8.mono (by (iterate 30 (try first | assumption | refine Heap.le_trans ?_ (by assumption))); first | done | assumption)) (by omega) (by omega) hl0) (fun v h' hl hr => ?_); obtain ⟨s', rfl, hs'⟩ := hr; replace hs' := Nz.up (Nz.re hs' (if_pos rfl)) (show _ ≤ 2100 by omega); conv => whnf)
           | (refine CallN.fn rfl (k1 _ (by (iterate 30 (try first | assumption | refine Tb.mono ?_ (by assumption))); first | done | assumption) _ (Nz.mono (by assumption) (by (iterate 30 (try first | assumption | exact Heap.le_refl _)); first | done | assumption))) (fun v h' hl hr => ?_); obtain ⟨c', d', rfl, hr1, hf1⟩ := hr; conv => whnf)
           | (refine CallN.fn rfl (k2 _ (by (iterate 30 (try first | assumption | refine Tb.mono ?_ (by assumption))); first | done | assumption) _ (Nz.mono (by assumption) (by (iterate 30 (try first | assumption | exact Heap.le_refl _)); first | done | assumption))) (fun v h' hl hr => ?_); obtain ⟨c2', d2', rfl, hr2, hf2⟩ := hr; conv => whnf))
         | ((first | refine opsI.step ?_ | refine codeI.step ?_); conv => whnf)
         | (show WrapN _ _ _; first
           | (refine WrapN.i64 (by omega) (by omega) ?_; conv => whnf))
         | (show cnd _ _ _; first
           | (refine cnd_lt (fun _ => ?_) (fun _ => ?_) <;> first | (exfalso; omega) | (conv => whnf)))
         | (show LdN _ _ _ _ _; first
           | (refine LdN.own 1 rfl rfl ?_; conv => whnf))
         | (show Ld _ _ _ _; first
           | (refine Ld.own 2 rfl rfl ?_; conv => whnf))
         | (show Sto _ _ _ _; first
           | (refine Sto.lit 1 rfl rfl rfl ?_; conv => whnf))
        all_goals exact RetN.all ⟨_, rfl, _, _, _, _, rfl, (by (iterate 30 (try first | assumption | refine IsRat.mono ?_ (by assumption))); first | done | assumption), (by assumption), hf1, hf2⟩
      · have hng : neg = false := by cases neg <;> simp at hng ⊢
        subst hng
        rw [if_neg (by decide)] at eA
        have x1 : ln 4294967296 (l8 / 2 ^ (w - p)) ≤ 64 := Nat.le_trans (ln_div _ _) (by omega)
        have x2 : ln 4294967296 (An.cd h8 (2 ^ (w - p))) ≤ 64 := Nat.le_trans (ln_le_of_le (An.cd_le (Nat.le_mul_of_pos_right _ (Nat.two_pow_pos _)) (Nat.two_pow_pos _))) (by omega)
        have k := fun h tb s t ns nt => bracket_ct h tb s t l8 h8 60 w p (p + 112 : Int) p (by omega) rfl ns nt (by omega) (by omega) (by omega) x1 x2
        subst eA
        conv => whnf
        repeat ((first | refine opsI.step ?_ | refine codeI.step ?_); conv => whnf)
        repeat' first
         | (show CallN _ _ _ _ _ _; first
           | (refine CallN.fn rfl (k _ (by (iterate 30 (try first | assumption | refine Tb.mono ?_ (by assumption))); first | done | assumption) _ _ (Nz.mono (by assumption) (by (iterate 30 (try first | assumption | exact Heap.le_refl _)); first | done | assumption)) (Nz.mono (by assumption) (by (iterate 30 (try first | assumption | exact Heap.le_refl _)); first | done | assumption))) (fun v h' hl hr => ?_); obtain ⟨a', b', c', d', rfl, hr1, hr2, hr3, hr4⟩ := hr; conv => whnf))
         | ((first | refine opsI.step ?_ | refine codeI.step ?_); conv => whnf)
         | (show cnd _ _ _; first
           | (refine cnd_lt (fun _ => ?_) (fun _ => ?_) <;> first | (exfalso; omega) | (conv => whnf)))
         | (show LdN _ _ _ _ _; first
           | (refine LdN.own 1 rfl rfl ?_; conv => whnf))
         | (show Ld _ _ _ _; first
           | (refine Ld.own 2 rfl rfl ?_; conv => whnf))
         | (show Sto _ _ _ _; first
           | (refine Sto.lit 1 rfl rfl rfl ?_; conv => whnf))
        all_goals exact RetN.all ⟨_, rfl, _, _, _, _, rfl, (by assumption), (by assumption), hr3, hr4⟩
    · have d3 := b3.out (j + 1) (by omega)
      have d4 := b4.out (j + 1) (by omega)
      have e3 : An.sqLo w lo (j + 1) = An.sqLo w lo j * An.sqLo w lo j / 2 ^ w := rfl
      have e4 : An.sqHi w hi (j + 1) = An.cd (An.sqHi w hi j * An.sqHi w hi j) (2 ^ w) := rfl
      obtain ⟨u, hu⟩ : ∃ u, u = An.sqLo w lo j := ⟨_, rfl⟩
      obtain ⟨v, hv⟩ : ∃ u, u = An.sqHi w hi j := ⟨_, rfl⟩
      rw [← hu] at m8 e3
      rw [← hv] at m9 e4
      clear hu hv b3 b4 c1 c2 g1 g0
      conv => whnf
      repeat ((first | refine opsI.step ?_ | refine codeI.step ?_); conv => whnf)
      repeat' first
       | (show CallN _ _ _ _ _ _; first
         | (refine CallN.fn rfl (MulZ _ _ _ _ _ _ _ (Nz.mono (by assumption) (by (iterate 30 (try first | assumption | exact Heap.le_refl _ | refine Heap.le_trans ?_ (by assumption))); first | done | assumption)) (Nz.mono (by assumption) (by (iterate 30 (try first | assumption | exact Heap.le_refl _ | refine Heap.le_trans ?_ (by assumption))); first | done | assumption)) (by omega) (by omega)) (fun v h' hl hr => ?_); obtain ⟨s', rfl, hs'⟩ := hr; conv => whnf)
         | (refine CallN.fn rfl (ShrZ _ _ _ _ w _ (by omega) (Nz.mono (by assumption) (by (iterate 30 (try first | assumption | exact Heap.le_refl _)); first | done | assumption)) (by omega) (by omega)) (fun v h' hl hr => ?_); obtain ⟨s', rfl, hs'⟩ := hr; conv => whnf)
         | (refine CallN.fn rfl (up_ct _ (by (iterate 30 (try first | assumption | refine Tb.mono ?_ (by assumption))); first | done | assumption) _ _ _ w _ (by omega) (Nz.mono (by assumption) (by (iterate 30 (try first | assumption | exact Heap.le_refl _)); first | done | assumption)) (by omega) (by omega)) (fun v h' hl hr => ?_); obtain ⟨s', rfl, hs'⟩ := hr; conv => whnf))
       | ((first | refine opsI.step ?_ | refine codeI.step ?_); conv => whnf)
       | (show WrapN _ _ _; first
         | (refine WrapN.i64 (by omega) (by omega) ?_; conv => whnf))
       | (show cnd _ _ _; first
         | (refine cnd_lt (fun _ => ?_) (fun _ => ?_) <;> first | (exfalso; omega) | (conv => whnf)))
      all_goals exact ⟨rfl, 8 - (j + 1), by omega, (by (iterate 30 (try first | assumption | refine Heap.le_trans ?_ (by assumption))); first | done | assumption), rfl, j + 1, _, _, rfl, by omega, vi (by omega), rfl, rfl, Nz.by_ln (Nz.re (Nz.mono (by assumption) (by (iterate 30 (try first | assumption | refine Heap.le_trans ?_ (by assumption))); first | done | assumption)) e3.symm) d3, Nz.by_ln (Nz.re (Nz.mono (by assumption) (by (iterate 30 (try first | assumption | exact Heap.le_refl _)); first | done | assumption)) e4.symm) d4⟩
  · obtain ⟨lo, hlo⟩ : ∃ l, l = An.expLo yl w k := ⟨_, rfl⟩
    obtain ⟨hi, hhi⟩ : ∃ l, l = An.expHi yh w k := ⟨_, rfl⟩
    obtain ⟨i, hi'⟩ : ∃ i, i = 40 - k := ⟨_, rfl⟩
    rw [← hlo, ← hi'] at e1
    rw [← hhi, ← hi'] at e2
    rw [← hlo] at n8
    rw [← hhi] at n9
    clear hlo hhi b1 b2
    conv => whnf
    repeat ((first | refine opsI.step ?_ | refine codeI.step ?_); conv => whnf)
    repeat' first
     | (show CallN _ _ _ _ _ _; first
       | (refine CallN.fn rfl (MulZ _ _ _ _ _ _ _ (Nz.mono (by assumption) (by (iterate 30 (try first | assumption | refine Heap.le_trans ?_ (by assumption))); first | done | assumption)) (Nz.mono (by assumption) (by (iterate 30 (try first | assumption | exact Heap.le_refl _ | refine Heap.le_trans ?_ (by assumption))); first | done | assumption)) (by omega) (by omega)) (fun v h' hl hr => ?_); obtain ⟨s', rfl, hs'⟩ := hr; conv => whnf)
       | (refine CallN.fn rfl (AddZ _ _ _ _ _ _ _ (Nz.mono (by assumption) (by (iterate 30 (try first | assumption | exact Heap.le_refl _ | refine Heap.le_trans ?_ (by assumption))); first | done | assumption)) (Nz.mono (by assumption) (by (iterate 30 (try first | assumption | exact Heap.le_refl _)); first | done | assumption)) (by omega) (by omega)) (fun v h' hl hr => ?_); obtain ⟨s', rfl, hs'⟩ := hr; conv => whnf)
       | (refine CallN.fn rfl (ShrZ _ _ _ _ (w + 8) _ (by omega) (Nz.mono (by assumption) (by (iterate 30 (try first | assumption | exact Heap.le_refl _)); first | done | assumption)) (by omega) (by omega)) (fun v h' hl hr => ?_); obtain ⟨s', rfl, hs'⟩ := hr; conv => whnf)
       | (refine CallN.fn rfl (DivSmallZ _ _ _ _ i _ (by omega) (Nz.mono (by assumption) (by (iterate 30 (try first | assumption | exact Heap.le_refl _)); first | done | assumption)) (by omega) (by omega) (by omega)) (fun v h' hl hr => ?_); obtain ⟨s', rfl, hs'⟩ := hr; conv => whnf)
       | (refine CallN.fn rfl (unit_ct _ w _ (by omega) (by omega)) (fun v h' hl hr => ?_); obtain ⟨s', rfl, hs'⟩ := hr; conv => whnf)
       | (refine CallN.fn rfl (up_ct _ (by (iterate 30 (try first | assumption | refine Tb.mono ?_ (by assumption))); first | done | assumption) _ _ _ (w + 8) _ (by omega) (Nz.mono (by assumption) (by (iterate 30 (try first | assumption | exact Heap.le_refl _)); first | done | assumption)) (by omega) (by omega)) (fun v h' hl hr => ?_); obtain ⟨s', rfl, hs'⟩ := hr; conv => whnf)
       | (refine CallN.fn rfl (SmallZ _ i (by omega)) (fun v h' hl hr => ?_); obtain ⟨s', rfl, hs'⟩ := hr; conv => whnf)
       | (refine CallN.fn rfl (over_ct _ _ _ _ _ _ _ _ (Nz.mono (by assumption) (by assumption)) (Nz.mono (by assumption) (by (iterate 30 (try first | assumption | exact Heap.le_refl _)); first | done | assumption)) (by omega) (by omega) (by first | assumption | omega)) (fun v h' hl hr => ?_); obtain ⟨s', rfl, hs'⟩ := hr; conv => whnf))
     | (show WrapN _ _ _; first
       | (refine WrapN.u64v i (by omega) ?_; conv => whnf)
       | (refine WrapN.i64 (by omega) (by omega) ?_; conv => whnf)
       | (refine WrapN.u32 (by omega) (by omega) ?_; conv => whnf))
     | ((first | refine opsI.step ?_ | refine codeI.step ?_); conv => whnf)
     | (refine ⟨fun _ => HasLe.of_le (by assumption), ?_⟩; conv => whnf)
     | (show cnd _ _ _; first
       | (refine cnd_le (fun _ => ?_) (fun _ => ?_) <;> first | (exfalso; omega) | (conv => whnf)))
     | (show Ld _ _ _ _; first
       | (refine Ld.own 0 rfl rfl ?_; conv => whnf))
     | (show DrawN _ _ _ _ _ _; first
       | (refine DrawN.run (by decide +kernel) ?_; conv => whnf))
    all_goals exact ⟨rfl, 40 - (k + 1), by omega, (by (iterate 30 (try first | assumption | refine Heap.le_trans ?_ (by assumption))); first | done | assumption), rfl, k + 1, _, _, rfl, by omega, vi (by omega), rfl, rfl, Nz.by_ln (Nz.re (Nz.mono (by assumption) (by (iterate 30 (try first | assumption | refine Heap.le_trans ?_ (by assumption))); first | done | assumption)) e1.symm) d1, Nz.by_ln (Nz.re (Nz.mono (by assumption) (by (iterate 30 (try first | assumption | exact Heap.le_refl _)); first | done | assumption)) e2.symm) (d2.out (by omega))⟩
end Go.Proofs.YtdemgbmndijkkaaGreatDoor