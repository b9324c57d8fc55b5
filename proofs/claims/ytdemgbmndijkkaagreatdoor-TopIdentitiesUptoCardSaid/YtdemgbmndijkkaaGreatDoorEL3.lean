/- Package elem: the logarithm's series, rounding outward; the bounds of a logarithm. -/
import Derived.Test.YtdemgbmndijkkaaGreatDoorEL2
set_option linter.unusedVariables false
set_option linter.unusedSimpArgs false
namespace Go.Proofs.YtdemgbmndijkkaaGreatDoor
open Go Go.Vc Go.Dig
set_option maxRecDepth 20000 in
set_option maxHeartbeats 1000000 in
theorem logs_ct (h : Heap) (tb : Tb h) (a b : Sl) (m n w : Nat) (x : Int) (hx : x = w) (ha : Nz h a m 2200) (hb : Nz h b n 2200) (hm : 2 * m ≤ 2 ^ w) (hn : 2 * n ≤ 2 ^ w) (hw : w ≤ 200) :
    Fn0 T F.elem_logs [.agg #[a.val, b.val], .int .i64 x] h fun v h' => PairR h' v (An.logsA m n w).1 (An.logsA m n w).2 60 := by
  subst hx
  have lw : ln 4294967296 (2 * 2 ^ w) ≤ 60 := by rw [Nat.mul_comm, ← Nat.pow_succ]; exact ln_two_pow_le (by omega)
  have f1 := Nat.le_trans (ln_le_of_le (An.logs_le hm hn).1) lw
  have f2 := Nat.le_trans (ln_le_of_le (An.logs_le hm hn).2) lw
  have sq := fun h tb ha hb => square_ct h tb a b m n 2200 w (w : Int) rfl ha hb (by omega) (by omega)
  have s1 := (An.sq_half hm).1
  have s2 := (An.sq_half hn).2 (Nat.two_pow_pos w)
  have e0 : An.logsA m n w = (m * An.logLo (m * m / 2 ^ w) w 55 * 2 / 2 ^ w, An.cd (n * An.logHi (An.cd (n * n) (2 ^ w)) w 55 * 2) (2 ^ w)) := rfl
  obtain ⟨sl, hsl⟩ : ∃ s, s = m * m / 2 ^ w := ⟨_, rfl⟩
  obtain ⟨sh, hsh⟩ : ∃ s, s = An.cd (n * n) (2 ^ w) := ⟨_, rfl⟩
  rw [← hsl] at sq s1 e0
  rw [← hsh] at sq s2 e0
  have b1 := fun k => Nat.le_trans (ln_le_of_le (An.logLo_le2 (sl := sl) (w := w) s1 k)) lw
  have b2 := fun k => Nat.le_trans (ln_le_of_le (An.logHi_le2 (sh := sh) (w := w) s2 k)) lw
  have hp0 : ∀ c : Nat, 0 < c → c * 2 ^ w ≠ 0 := fun c hc => Nat.ne_of_gt (Nat.mul_pos hc (Nat.two_pow_pos w))
  obtain ⟨R, hR⟩ : ∃ R, R = An.logsA m n w := ⟨_, rfl⟩
  rw [← hR] at e0 f1 f2 ⊢
  clear hsl hsh hR hm hn s1 s2 lw
  refine fn0_of_codeI ok D.elem_logs rfl ?_
  conv => whnf
  repeat ((first | refine opsI.step ?_ | refine codeI.step ?_); conv => whnf)
  repeat' first
   | (show CallN _ _ _ _ _ _; first
     | (refine CallN.fn rfl (sq _ (by assumption) (Nz.mono (by assumption) (by (iterate 30 (try first | assumption | exact Heap.le_refl _)); first | done | assumption)) (Nz.mono (by assumption) (by (iterate 30 (try first | assumption | exact Heap.le_refl _)); first | done | assumption))) (fun v h' hl hr => ?_); obtain ⟨s', t', rfl, hs', ht'⟩ := hr; conv => whnf)
     | (refine CallN.fn rfl (SmallZ _ 111 (by omega)) (fun v h' hl hr => ?_); obtain ⟨s', rfl, hs'⟩ := hr; conv => whnf)
     | (refine CallN.fn rfl (SmallZ _ 100 (by omega)) (fun v h' hl hr => ?_); obtain ⟨s', rfl, hs'⟩ := hr; conv => whnf)
     | (refine CallN.fn rfl (SmallZ _ 11100 (by omega)) (fun v h' hl hr => ?_); obtain ⟨s', rfl, hs'⟩ := hr; conv => whnf)
     | (refine CallN.fn rfl (unit_ct _ w _ (by omega) (by omega)) (fun v h' hl hr => ?_); obtain ⟨s', rfl, hs'⟩ := hr; conv => whnf)
     | (refine CallN.fn rfl (MulZ _ _ _ _ _ _ _ (Nz.mono (by assumption) (by (iterate 30 (try first | assumption | refine Heap.le_trans ?_ (by assumption))); first | done | assumption)) (Nz.mono (by assumption) (by (iterate 30 (try first | assumption | exact Heap.le_refl _ | refine Heap.le_trans ?_ (by assumption))); first | done | assumption)) (by omega) (by omega)) (fun v h' hl hr => ?_); obtain ⟨s', rfl, hs'⟩ := hr; conv => whnf)
     | (refine CallN.fn rfl (AddZ _ _ _ _ _ _ _ (Nz.mono (by assumption) (by assumption)) (Nz.mono (by assumption) (by (iterate 30 (try first | assumption | exact Heap.le_refl _)); first | done | assumption)) (by omega) (by omega)) (fun v h' hl hr => ?_); obtain ⟨s', rfl, hs'⟩ := hr; conv => whnf)
     | (refine CallN.fn rfl (over_ct _ _ _ _ _ _ _ _ (Nz.mono (by assumption) (by (iterate 30 (try first | assumption | exact Heap.le_refl _)); first | done | assumption)) (Nz.mono (by assumption) (by (iterate 30 (try first | assumption | exact Heap.le_refl _)); first | done | assumption)) (by omega) (by omega) (by first | assumption | omega)) (fun v h' hl hr => ?_); obtain ⟨s', rfl, hs'⟩ := hr; conv => whnf))
   | ((first | refine opsI.step ?_ | refine codeI.step ?_); conv => whnf)
   | (refine ⟨fun _ => HasLe.of_le (by assumption), ?_⟩; conv => whnf)
   | (intro (_ : Nat); conv => whnf)
   | (show LdN _ _ _ _ _; first
     | (refine LdN.own 1 rfl rfl ?_; conv => whnf))
   | (show Ld _ _ _ _; first
     | (refine Ld.own 0 rfl rfl ?_; conv => whnf))
   | (show Sto _ _ _ _; first
     | (refine Sto.lit 0 rfl rfl rfl ?_; conv => whnf))
   | (show DrawN _ _ _ _ _ _; first
     | (refine DrawN.run (by decide +kernel) ?_; conv => whnf))
  refine LoopN.keepL (fun r ρ hx => ∃ (k : Nat) (s7 s8 : Sl), r = 55 - k ∧ k ≤ 55 ∧ rd ρ 9 = .int .i64 (54 - (k : Int)) ∧ rd ρ 7 = s7.val ∧ rd ρ 8 = s8.val ∧ Nz hx s7 (An.logLo sl w k) 60 ∧ Nz hx s8 (An.logHi sh w k) 60) 55
    ⟨0, _, _, rfl, by omega, rfl, rfl, rfl, Nz.by_ln (Nz.re (Nz.mono (by assumption) (by (iterate 30 (try first | assumption | refine Heap.le_trans ?_ (by assumption))); first | done | assumption)) (if_neg (by decide))) (b1 0), Nz.by_ln (Nz.re (Nz.mono (by assumption) (by (iterate 30 (try first | assumption | exact Heap.le_refl _)); first | done | assumption)) (if_pos rfl)) (b2 0)⟩ ?_
  conv => whnf
  repeat intro _
  rename_i r hy hle2 hI
  obtain ⟨k, s7, s8, rfl, hk, e9, e7, e8, n7, n8⟩ := hI
  conv at e9 => lhs; whnf
  subst e9
  conv at e7 => lhs; whnf
  subst e7
  conv at e8 => lhs; whnf
  subst e8
  by_cases hk55 : k = 55
  · subst hk55
    obtain ⟨lo, hlo⟩ : ∃ l, l = An.logLo sl w 55 := ⟨_, rfl⟩
    obtain ⟨hi, hhi⟩ : ∃ l, l = An.logHi sh w 55 := ⟨_, rfl⟩
    rw [← hlo] at n7 e0
    rw [← hhi] at n8 e0
    clear b1 b2 hlo hhi
    subst e0
    conv => whnf
    repeat ((first | refine opsI.step ?_ | refine codeI.step ?_); conv => whnf)
    repeat' first
     | (show CallN _ _ _ _ _ _; first
       | (refine CallN.fn rfl (MulZ _ _ _ _ _ _ _ (Nz.mono (by assumption) (by (iterate 30 (try first | assumption | refine Heap.le_trans ?_ (by assumption))); first | done | assumption)) (Nz.mono (by assumption) (by (iterate 30 (try first | assumption | exact Heap.le_refl _ | refine Heap.le_trans ?_ (by assumption))); first | done | assumption)) (by omega) (by omega)) (fun v h' hl hr => ?_); obtain ⟨s', rfl, hs'⟩ := hr; conv => whnf)
       | (refine CallN.fn rfl (ShlZ _ _ _ _ 1 _ rfl (Nz.mono (by assumption) (by (iterate 30 (try first | assumption | exact Heap.le_refl _)); first | done | assumption)) (by omega) (by omega)) (fun v h' hl hr => ?_); obtain ⟨s', rfl, hs'⟩ := hr; conv => whnf)
       | (refine CallN.fn rfl (ShrZ _ _ _ _ w _ (by omega) (Nz.mono (by assumption) (by (iterate 30 (try first | assumption | exact Heap.le_refl _)); first | done | assumption)) (by omega) (by omega)) (fun v h' hl hr => ?_); obtain ⟨s', rfl, hs'⟩ := hr; conv => whnf)
       | (refine CallN.fn rfl (up_ct _ (by (iterate 30 (try first | assumption | refine Tb.mono ?_ (by assumption))); first | done | assumption) _ _ _ w _ (by omega) (Nz.mono (by assumption) (by (iterate 30 (try first | assumption | exact Heap.le_refl _)); first | done | assumption)) (by omega) (by omega)) (fun v h' hl hr => ?_); obtain ⟨s', rfl, hs'⟩ := hr; conv => whnf))
     | ((first | refine opsI.step ?_ | refine codeI.step ?_); conv => whnf)
     | (refine ⟨fun _ => HasLe.of_le (by assumption), ?_⟩; conv => whnf)
     | (refine ⟨fun hst => (by cases (show true = false from hst)), ?_⟩; conv => whnf)
     | (show cnd _ _ _; first
       | (refine cnd_le (fun _ => ?_) (fun _ => ?_) <;> first | (exfalso; omega) | (conv => whnf)))
     | (show LdN _ _ _ _ _; first
       | (refine LdN.own 1 rfl rfl ?_; conv => whnf))
     | (show Ld _ _ _ _; first
       | (refine Ld.own 2 rfl rfl ?_; conv => whnf))
     | (show Sto _ _ _ _; first
       | (refine Sto.lit 1 rfl rfl rfl ?_; conv => whnf))
     | (show DrawN _ _ _ _ _ _; first
       | (refine DrawN.run (by decide +kernel) ?_; conv => whnf))
    all_goals exact RetN.all ⟨_, _, rfl, Nz.by_ln (Nz.mono (by assumption) (by (iterate 30 (try first | assumption | refine Heap.le_trans ?_ (by assumption))); first | done | assumption)) f1, Nz.by_ln (Nz.mono (by assumption) (by (iterate 30 (try first | assumption | exact Heap.le_refl _)); first | done | assumption)) f2⟩
  · have d1 := b1 (k + 1)
    have d2 := b2 (k + 1)
    have e1 : An.logLo sl w (k + 1) = (2 ^ (2 * w) + sl * An.logLo sl w k * (2 * (54 - k) + 1)) / ((2 * (54 - k) + 1) * 2 ^ w) := rfl
    have e2 : An.logHi sh w (k + 1) = An.cd (2 ^ (2 * w) + sh * An.logHi sh w k * (2 * (54 - k) + 1)) ((2 * (54 - k) + 1) * 2 ^ w) := rfl
    obtain ⟨lo, hlo⟩ : ∃ l, l = An.logLo sl w k := ⟨_, rfl⟩
    obtain ⟨hi, hhi⟩ : ∃ l, l = An.logHi sh w k := ⟨_, rfl⟩
    obtain ⟨o, ho⟩ : ∃ o, o = 2 * (54 - k) + 1 := ⟨_, rfl⟩
    rw [← hlo, ← ho] at e1
    rw [← hhi, ← ho] at e2
    rw [← hlo] at n7
    rw [← hhi] at n8
    have ho0 := hp0 o (by omega)
    clear hlo hhi b1 b2 hp0
    conv => whnf
    repeat ((first | refine opsI.step ?_ | refine codeI.step ?_); conv => whnf)
    repeat' first
     | (show WrapN _ _ _; first
       | (refine WrapN.u64v o (by omega) ?_; conv => whnf)
       | (refine WrapN.i64 (by omega) (by omega) ?_; conv => whnf))
     | (show CallN _ _ _ _ _ _; first
       | (refine CallN.fn rfl (SmallZ _ o (by omega)) (fun v h' hl hr => ?_); obtain ⟨s', rfl, hs'⟩ := hr; conv => whnf)
       | (refine CallN.fn rfl (unit_ct _ (2 * w) _ (by omega) (by omega)) (fun v h' hl hr => ?_); obtain ⟨s', rfl, hs'⟩ := hr; conv => whnf)
       | (refine CallN.fn rfl (MulZ _ _ _ _ _ _ _ (Nz.mono (by assumption) (by (iterate 30 (try first | assumption | exact Heap.le_refl _ | refine Heap.le_trans ?_ (by assumption))); first | done | assumption)) (Nz.mono (by assumption) (by (iterate 30 (try first | assumption | refine Heap.le_trans ?_ (by assumption))); first | done | assumption)) (by omega) (by omega)) (fun v h' hl hr => ?_); obtain ⟨s', rfl, hs'⟩ := hr; conv => whnf)
       | (refine CallN.fn rfl (AddZ _ _ _ _ _ _ _ (Nz.mono (by assumption) (by (iterate 30 (try first | assumption | refine Heap.le_trans ?_ (by assumption))); first | done | assumption)) (Nz.mono (by assumption) (by (iterate 30 (try first | assumption | exact Heap.le_refl _)); first | done | assumption)) (by omega) (by omega)) (fun v h' hl hr => ?_); obtain ⟨s', rfl, hs'⟩ := hr; conv => whnf)
       | (refine CallN.fn rfl (ShlZ _ _ _ _ w _ (by omega) (Nz.mono (by assumption) (by (iterate 30 (try first | assumption | refine Heap.le_trans ?_ (by assumption))); first | done | assumption)) (by omega) (by omega)) (fun v h' hl hr => ?_); obtain ⟨s', rfl, hs'⟩ := hr; conv => whnf)
       | (refine CallN.fn rfl (over_ct _ _ _ _ _ _ _ _ (Nz.mono (by assumption) (by (iterate 30 (try first | assumption | refine Heap.le_trans ?_ (by assumption))); first | done | assumption)) (Nz.mono (by assumption) (by (iterate 30 (try first | assumption | exact Heap.le_refl _)); first | done | assumption)) (by omega) (by omega) (by first | assumption | omega)) (fun v h' hl hr => ?_); obtain ⟨s', rfl, hs'⟩ := hr; conv => whnf))
     | ((first | refine opsI.step ?_ | refine codeI.step ?_); conv => whnf)
     | (refine ⟨fun _ => HasLe.of_le (by assumption), ?_⟩; conv => whnf)
     | (show cnd _ _ _; first
       | (refine cnd_le (fun _ => ?_) (fun _ => ?_) <;> first | (exfalso; omega) | (conv => whnf)))
     | (show Ld _ _ _ _; first
       | (refine Ld.own 0 rfl rfl ?_; conv => whnf))
     | (show DrawN _ _ _ _ _ _; first
       | (refine DrawN.run (by decide +kernel) ?_; conv => whnf))
    all_goals exact ⟨rfl, 55 - (k + 1), by omega, (by (iterate 30 (try first | assumption | refine Heap.le_trans ?_ (by assumption))); first | done | assumption), rfl, k + 1, _, _, rfl, by omega, vi (by omega), rfl, rfl, Nz.by_ln (Nz.re (Nz.mono (by assumption) (by (iterate 30 (try first | assumption | refine Heap.le_trans ?_ (by assumption))); first | done | assumption)) ((if_neg (by decide)).trans e1.symm)) d1, Nz.by_ln (Nz.re (Nz.mono (by assumption) (by (iterate 30 (try first | assumption | exact Heap.le_refl _)); first | done | assumption)) ((if_pos rfl).trans e2.symm)) d2⟩
end Go.Proofs.YtdemgbmndijkkaaGreatDoor