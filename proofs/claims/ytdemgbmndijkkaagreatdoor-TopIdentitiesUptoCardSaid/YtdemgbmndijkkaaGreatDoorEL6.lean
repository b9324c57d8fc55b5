/- Package elem: the arctangent's series, pi, the waves of sine and cosine. -/
import Derived.Test.YtdemgbmndijkkaaGreatDoorEL4
import Derived.Test.YtdemgbmndijkkaaGreatDoorRB4
set_option linter.unusedVariables false
set_option linter.unusedSimpArgs false
namespace Go.Proofs.YtdemgbmndijkkaaGreatDoor
open Go Go.Vc Go.Dig
set_option maxRecDepth 20000 in
set_option maxHeartbeats 2000000 in
theorem arctan_ct (h : Heap) (tb : Tb h) (a b : Sl) (m n w : Nat) (x : Int) (hx : x = w) (ha : Nz h a m 2200) (hb : Nz h b n 2200) (hm : 2 * m ≤ 2 ^ w) (hn : 2 * n ≤ 2 ^ w) (hw : w ≤ 200) (hw7 : 10 ≤ w) :
    Fn0 T F.elem_arctan [.agg #[a.val, b.val], .int .i64 x] h fun v h' => PairR h' v (An.atA m n w).1 (An.atA m n w).2 3000 := by
  subst hx
  have lw : ln 4294967296 (2 ^ w) ≤ 60 := ln_two_pow_le (by omega)
  have sq := fun h tb ha hb => square_ct h tb a b m n 2200 w (w : Int) rfl ha hb (by omega) (by omega)
  have s1 := (An.sq_half hm).1
  have s2 := (An.sq_half hn).2 (Nat.two_pow_pos w)
  have e0 : An.atA m n w = (m * (An.atP (m * m / 2 ^ w) (An.cd (n * n) (2 ^ w)) w 39).1 / 2 ^ w, An.cd (n * (An.atP (m * m / 2 ^ w) (An.cd (n * n) (2 ^ w)) w 39).2) (2 ^ w)) := rfl
  obtain ⟨sl, hsl⟩ : ∃ s, s = m * m / 2 ^ w := ⟨_, rfl⟩
  obtain ⟨sh, hsh⟩ : ∃ s, s = An.cd (n * n) (2 ^ w) := ⟨_, rfl⟩
  rw [← hsl] at sq s1 e0
  rw [← hsh] at sq s2 e0
  have b1 := fun k => Nat.le_trans (ln_le_of_le (An.atP_le (sl := sl) (sh := sh) (w := w) k).1) lw
  have b2 := fun k => Nat.le_trans (ln_le_of_le (An.atP_le (sl := sl) (sh := sh) (w := w) k).2) lw
  have o1 := fun k hk => An.at_sub (sh := sh) (w := w) (k := k) hk s2 (by omega) (An.atP_odd (sl := sl) (sh := sh) (w := w) k (by omega))
  have o2 := fun k hk => An.at_sub (sh := sl) (w := w) (k := k) hk s1 (by omega) (An.atP_odd1 (sl := sl) (sh := sh) (w := w) k (by omega))
  have hp0 : ∀ c : Nat, 0 < c → c * 2 ^ w ≠ 0 := fun c hc => Nat.ne_of_gt (Nat.mul_pos hc (Nat.two_pow_pos w))
  have h79 : sh * 79 ≤ 2 ^ w * 81 := by omega
  obtain ⟨R, hR⟩ : ∃ R, R = An.atA m n w := ⟨_, rfl⟩
  rw [← hR] at e0 ⊢
  clear hsl hsh hR hm hn s1 s2 lw
  replace o1 := Hq.mk o1
  replace o2 := Hq.mk o2
  refine fn0_of_codeI ok D.elem_arctan rfl ?_
  conv => whnf
  repeat ((first | refine opsI.step ?_ | refine codeI.step ?_); conv => whnf)
  repeat' first
   | (show CallN _ _ _ _ _ _; first
     | (refine CallN.fn rfl (sq _ (by assumption) (Nz.mono (by assumption) (by (iterate 30 (try first | assumption | exact Heap.le_refl _)); first | done | assumption)) (Nz.mono (by assumption) (by (iterate 30 (try first | assumption | exact Heap.le_refl _)); first | done | assumption))) (fun v h' hl hr => ?_); obtain ⟨s', t', rfl, hs', ht'⟩ := hr; conv => whnf)
     | (refine CallN.fn rfl (SmallZ _ 79 (by omega)) (fun v h' hl hr => ?_); obtain ⟨s', rfl, hs'⟩ := hr; conv => whnf)
     | (refine CallN.fn rfl (SmallZ _ 81 (by omega)) (fun v h' hl hr => ?_); obtain ⟨s', rfl, hs'⟩ := hr; conv => whnf)
     | (refine CallN.fn rfl (SmallZ _ 6399 (by omega)) (fun v h' hl hr => ?_); obtain ⟨s', rfl, hs'⟩ := hr; conv => whnf)
     | (refine CallN.fn rfl (unit_ct _ w _ (by omega) (by omega)) (fun v h' hl hr => ?_); obtain ⟨s', rfl, hs'⟩ := hr; conv => whnf)
     | (refine CallN.fn rfl (MulZ _ _ _ _ _ _ _ (Nz.mono (by assumption) (by (iterate 30 (try first | assumption | refine Heap.le_trans ?_ (by assumption))); first | done | assumption)) (Nz.mono (by assumption) (by (iterate 30 (try first | assumption | exact Heap.le_refl _ | refine Heap.le_trans ?_ (by assumption))); first | done | assumption)) (by omega) (by omega)) (fun v h' hl hr => ?_); obtain ⟨s', rfl, hs'⟩ := hr; conv => whnf)
     | (refine CallN.fn rfl (SubZ _ _ _ _ _ _ _ (Nz.mono (by assumption) (by assumption)) (Nz.mono (by assumption) (by (iterate 30 (try first | assumption | exact Heap.le_refl _)); first | done | assumption)) (by omega) h79) (fun v h' hl hr => ?_); obtain ⟨s', rfl, hs'⟩ := hr; conv => whnf)
     | (refine CallN.fn rfl (over_ct _ _ _ _ _ _ _ _ (Nz.mono (by assumption) (by (iterate 30 (try first | assumption | exact Heap.le_refl _)); first | done | assumption)) (Nz.mono (by assumption) (by (iterate 30 (try first | assumption | exact Heap.le_refl _ | refine Heap.le_trans ?_ (by assumption))); first | done | assumption)) (by omega) (by omega) (by first | assumption | omega)) (fun v h' hl hr => ?_); obtain ⟨s', rfl, hs'⟩ := hr; conv => whnf))
   | ((first | refine opsI.step ?_ | refine codeI.step ?_); conv => whnf)
   | (refine ⟨fun _ => HasLe.of_le (by assumption), ?_⟩; conv => whnf)
   | (intro (_ : Nat); conv => whnf)
   | (show LdN _ _ _ _ _; first
     | (refine LdN.own 1 rfl rfl ?_; conv => whnf))
   | (show Ld _ _ _ _; first
     | (refine Ld.own 0 rfl rfl ?_; conv => whnf))
   | (show Sto _ _ _ _; first
     | (refine Sto.lit 0 rfl rfl rfl ?_; conv => whnf))
   | (show DrawN _ _ _ _ _ _; first
     | (refine DrawN.run (by decide +kernel) ?_; conv => whnf))
  refine LoopN.keepL (fun r ρ hx => ∃ (k : Nat) (s8 s9 : Sl), r = 39 - k ∧ k ≤ 39 ∧ rd ρ 10 = .int .i64 (38 - (k : Int)) ∧ rd ρ 8 = s8.val ∧ rd ρ 9 = s9.val ∧ Nz hx s8 (An.atP sl sh w k).1 60 ∧ Nz hx s9 (An.atP sl sh w k).2 60) 39
    ⟨0, _, _, rfl, by omega, rfl, rfl, rfl, Nz.by_ln (Nz.re (Nz.mono (by assumption) (by (iterate 30 (try first | assumption | refine Heap.le_trans ?_ (by assumption))); first | done | assumption)) (if_neg (by decide))) (b1 0), Nz.by_ln (Nz.re (Nz.mono (by assumption) (by (iterate 30 (try first | assumption | exact Heap.le_refl _)); first | done | assumption)) (if_pos rfl)) (b2 0)⟩ ?_
  conv => whnf
  repeat intro _
  rename_i r hy hle2 hI
  obtain ⟨k, s8, s9, rfl, hk, e10, e8, e9, n8, n9⟩ := hI
  conv at e10 => lhs; whnf
  subst e10
  conv at e8 => lhs; whnf
  subst e8
  conv at e9 => lhs; whnf
  subst e9
  by_cases hk39 : k = 39
  · subst hk39
    obtain ⟨P, hP⟩ : ∃ l, l = An.atP sl sh w 39 := ⟨_, rfl⟩
    rw [← hP] at n8 n9 e0
    clear b1 b2 hP o1 o2
    subst e0
    conv => whnf
    repeat ((first | refine opsI.step ?_ | refine codeI.step ?_); conv => whnf)
    repeat' first
     | (show CallN _ _ _ _ _ _; first
       | (refine CallN.fn rfl (MulZ _ _ _ _ _ _ _ (Nz.mono (by assumption) (by (iterate 30 (try first | assumption | refine Heap.le_trans ?_ (by assumption))); first | done | assumption)) (Nz.mono (by assumption) (by (iterate 30 (try first | assumption | exact Heap.le_refl _ | refine Heap.le_trans ?_ (by assumption))); first | done | assumption)) (by omega) (by omega)) (fun v h' hl hr => ?_); obtain ⟨s', rfl, hs'⟩ := hr; conv => whnf)
       | (refine CallN.fn rfl (ShrZ _ _ _ _ w _ (by omega) (Nz.mono (by assumption) (by (iterate 30 (try first | assumption | exact Heap.le_refl _)); first | done | assumption)) (by omega) (by omega)) (fun v h' hl hr => ?_); obtain ⟨s', rfl, hs'⟩ := hr; conv => whnf)
       | (refine CallN.fn rfl (up_ct _ (by (iterate 30 (try first | assumption | refine Tb.mono ?_ (by assumption))); first | done | assumption) _ _ _ w _ (by omega) (Nz.mono (by assumption) (by (iterate 30 (try first | assumption | exact Heap.le_refl _)); first | done | assumption)) (by omega) (by omega)) (fun v h' hl hr => ?_); obtain ⟨s', rfl, hs'⟩ := hr; conv => whnf))
     | ((first | refine opsI.step ?_ | refine codeI.step ?_); conv => whnf)
     | (refine ⟨fun _ => HasLe.of_le (by assumption), ?_⟩; conv => whnf)
     | (refine ⟨fun hst => (by cases (show true = false from hst)), ?_⟩; conv => whnf)
     | (show cnd _ _ _; first
       | (refine cnd_le (fun _ => ?_) (fun _ => ?_) <;> first | (exfalso; omega) | (conv => whnf)))
     | (show LdN _ _ _ _ _; first
       | (refine LdN.own 1 rfl rfl ?_; conv => whnf))
     | (show Ld _ _ _ _; first
       | (refine Ld.own 2 rfl rfl ?_; conv => whnf))
     | (show Sto _ _ _ _; first
       | (refine Sto.lit 1 rfl rfl rfl ?_; conv => whnf))
     | (show DrawN _ _ _ _ _ _; first
       | (refine DrawN.run (by decide +kernel) ?_; conv => whnf))
    all_goals exact RetN.all ⟨_, _, rfl, Nz.up (Nz.mono (by assumption) (by (iterate 30 (try first | assumption | refine Heap.le_trans ?_ (by assumption))); first | done | assumption)) (by omega), Nz.up (Nz.mono (by assumption) (by (iterate 30 (try first | assumption | exact Heap.le_refl _)); first | done | assumption)) (by omega)⟩
  · have d1 := b1 (k + 1)
    have d2 := b2 (k + 1)
    have o1 := o1.out k (by omega)
    have o2 := o2.out k (by omega)
    have e1 : An.atP sl sh w (k + 1) = ((2 ^ (2 * w) - sh * (An.atP sl sh w k).2 * (2 * (38 - k) + 1)) / ((2 * (38 - k) + 1) * 2 ^ w), An.cd (2 ^ (2 * w) - sl * (An.atP sl sh w k).1 * (2 * (38 - k) + 1)) ((2 * (38 - k) + 1) * 2 ^ w)) := rfl
    obtain ⟨P, hP⟩ : ∃ l, l = An.atP sl sh w k := ⟨_, rfl⟩
    obtain ⟨o, ho⟩ : ∃ o, o = 2 * (38 - k) + 1 := ⟨_, rfl⟩
    rw [← hP, ← ho] at e1 o1 o2
    rw [← hP] at n8 n9
    have ho0 := hp0 o (by omega)
    obtain ⟨lo, hlo⟩ : ∃ x, x = P.1 := ⟨_, rfl⟩
    obtain ⟨hi, hhi⟩ : ∃ x, x = P.2 := ⟨_, rfl⟩
    rw [← hlo] at n8 e1 o2
    rw [← hhi] at n9 e1 o1
    have e3 := congrArg Prod.fst e1
    have e4 := congrArg Prod.snd e1
    simp only at e3 e4
    clear hP b1 b2 hp0 hlo hhi e1
    conv => whnf
    repeat ((first | refine opsI.step ?_ | refine codeI.step ?_); conv => whnf)
    repeat' first
     | (show WrapN _ _ _; first
       | (refine WrapN.u64v o (by omega) ?_; conv => whnf)
       | (refine WrapN.i64 (by omega) (by omega) ?_; conv => whnf))
     | (show CallN _ _ _ _ _ _; first
       | (refine CallN.fn rfl (SmallZ _ o (by omega)) (fun v h' hl hr => ?_); obtain ⟨s', rfl, hs'⟩ := hr; conv => whnf)
       | (refine CallN.fn rfl (unit_ct _ (2 * w) _ (by omega) (by omega)) (fun v h' hl hr => ?_); obtain ⟨s', rfl, hs'⟩ := hr; conv => whnf)
       | (refine CallN.fn rfl (MulZ _ _ _ _ _ _ _ (Nz.mono (by assumption) (by (iterate 30 (try first | assumption | exact Heap.le_refl _ | refine Heap.le_trans ?_ (by assumption))); first | done | assumption)) (Nz.mono (by assumption) (by (iterate 30 (try first | assumption | refine Heap.le_trans ?_ (by assumption))); first | done | assumption)) (by omega) (by omega)) (fun v h' hl hr => ?_); obtain ⟨s', rfl, hs'⟩ := hr; conv => whnf)
       | (refine CallN.fn rfl (SubZ _ _ _ _ _ _ _ (Nz.mono (by assumption) (by (iterate 30 (try first | assumption | refine Heap.le_trans ?_ (by assumption))); first | done | assumption)) (Nz.mono (by assumption) (by (iterate 30 (try first | assumption | exact Heap.le_refl _)); first | done | assumption)) (by omega) (by first | exact o1 | exact o2)) (fun v h' hl hr => ?_); obtain ⟨s', rfl, hs'⟩ := hr; conv => whnf)
       | (refine CallN.fn rfl (ShlZ _ _ _ _ w _ (by omega) (Nz.mono (by assumption) (by (iterate 30 (try first | assumption | refine Heap.le_trans ?_ (by assumption))); first | done | assumption)) (by omega) (by omega)) (fun v h' hl hr => ?_); obtain ⟨s', rfl, hs'⟩ := hr; conv => whnf)
       | (refine CallN.fn rfl (over_ct _ _ _ _ _ _ _ _ (Nz.mono (by assumption) (by (iterate 30 (try first | assumption | refine Heap.le_trans ?_ (by assumption))); first | done | assumption)) (Nz.mono (by assumption) (by (iterate 30 (try first | assumption | exact Heap.le_refl _)); first | done | assumption)) (by omega) (by omega) (by first | assumption | omega)) (fun v h' hl hr => ?_); obtain ⟨s', rfl, hs'⟩ := hr; conv => whnf))
     | ((first | refine opsI.step ?_ | refine codeI.step ?_); conv => whnf)
     | (refine ⟨fun _ => HasLe.of_le (by assumption), ?_⟩; conv => whnf)
     | (show cnd _ _ _; first
       | (refine cnd_le (fun _ => ?_) (fun _ => ?_) <;> first | (exfalso; omega) | (conv => whnf)))
     | (show Ld _ _ _ _; first
       | (refine Ld.own 0 rfl rfl ?_; conv => whnf))
     | (show DrawN _ _ _ _ _ _; first
       | (refine DrawN.run (by decide +kernel) ?_; conv => whnf))
    all_goals exact ⟨rfl, 39 - (k + 1), by omega, (by (iterate 30 (try first | assumption | refine Heap.le_trans ?_ (by assumption))); first | done | assumption), rfl, k + 1, _, _, rfl, by omega, vi (by omega), rfl, rfl, Nz.by_ln (Nz.re (Nz.mono (by assumption) (by (iterate 30 (try first | assumption | refine Heap.le_trans ?_ (by assumption))); first | done | assumption)) ((if_neg (by decide)).trans e3.symm)) d1, Nz.by_ln (Nz.re (Nz.mono (by assumption) (by (iterate 30 (try first | assumption | exact Heap.le_refl _)); first | done | assumption)) ((if_pos rfl).trans e4.symm)) d2⟩
set_option maxRecDepth 20000 in
theorem pi1_ct (h : Heap) (tb : Tb h) (bl : Nat) (T0 : TypeId) (fz : Nat × Nat) (n w : Nat) (hc : h bl = some (.cells #[.int .i64 w] T0 fz)) (hn : 3 ≤ n) (hn2 : n ≤ 1000) (hw : w ≤ 200) (hw7 : 10 ≤ w) :
    Fn0 T F.elem_pi_1 [.int .u64 n, .pointer (some ⟨bl, 0, none⟩)] h fun v h' => PairR h' v (An.atA (2 ^ w / n) (An.cd (2 ^ w) n) w).1 (An.atA (2 ^ w / n) (An.cd (2 ^ w) n) w).2 3000 := by
  obtain ⟨q1, q2⟩ := An.half_part (w := w) hn (by omega)
  have k := fun h tb s t ns nt => arctan_ct h tb s t (2 ^ w / n) (An.cd (2 ^ w) n) w (w : Int) rfl ns nt q1 q2 hw hw7
  obtain ⟨R, hR⟩ : ∃ R, R = An.atA (2 ^ w / n) (An.cd (2 ^ w) n) w := ⟨_, rfl⟩
  rw [← hR] at k ⊢
  have hn0 : n ≠ 0 := by omega
  refine fn0_of_codeI ok D.elem_pi_1 rfl ?_
  conv => whnf
  repeat ((first | refine opsI.step ?_ | refine codeI.step ?_); conv => whnf)
  repeat' first
   | (show Ld _ _ _ _; first
     | (refine Ld.of (Has.imm hc rfl) ?_; conv => whnf))
   | (show CallN _ _ _ _ _ _; first
     | (refine CallN.fn rfl (SmallZ _ n (by omega)) (fun v h' hl hr => ?_); obtain ⟨s', rfl, hs'⟩ := hr; conv => whnf)
     | (refine CallN.fn rfl (unit_ct _ w _ (by omega) (by omega)) (fun v h' hl hr => ?_); obtain ⟨s', rfl, hs'⟩ := hr; conv => whnf)
     | (refine CallN.fn rfl (over_ct _ _ _ _ _ _ _ false (Nz.mono (by assumption) (by (iterate 30 (try first | assumption | exact Heap.le_refl _)); first | done | assumption)) (Nz.mono (by assumption) (by (iterate 30 (try first | assumption | exact Heap.le_refl _)); first | done | assumption)) (by omega) (by omega) hn0) (fun v h' hl hr => ?_); obtain ⟨s', rfl, hs'⟩ := hr; replace hs' := Nz.re hs' (if_neg (by decide)); conv => whnf)
     | (refine CallN.fn rfl (over_ct _ _ _ _ _ _ _ true (Nz.mono (by assumption) (by assumption)) (Nz.mono (by assumption) (by (iterate 30 (try first | assumption | exact Heap.le_refl _)); first | done | assumption)) (by omega) (by omega) hn0) (fun v h' hl hr => ?_); obtain ⟨s', rfl, hs'⟩ := hr; replace hs' := Nz.re hs' (if_pos rfl); conv => whnf)
     | (refine CallN.fn rfl (k _ (by (iterate 30 (try first | assumption | refine Tb.mono ?_ (by assumption))); first | done | assumption) _ _ (Nz.up (Nz.mono (by assumption) (by (iterate 30 (try first | assumption | refine Heap.le_trans ?_ (by assumption))); first | done | assumption)) (by omega)) (Nz.up (Nz.mono (by assumption) (by (iterate 30 (try first | assumption | exact Heap.le_refl _)); first | done | assumption)) (by omega))) (fun v h' hl hr => ?_); obtain ⟨s', t', rfl, hs', ht'⟩ := hr; conv => whnf))
   | ((first | refine opsI.step ?_ | refine codeI.step ?_); conv => whnf)
   | (refine ⟨fun _ => HasLe.of_le (by assumption), ?_⟩; conv => whnf)
   | (refine ⟨fun hst => (by cases (show true = false from hst)), ?_⟩; conv => whnf)
   | (intro (_ : Nat); conv => whnf)
   | (show LdN _ _ _ _ _; first
     | (refine LdN.own 0 rfl rfl ?_; conv => whnf))
   | (show Sto _ _ _ _; first
     | (refine Sto.lit 0 rfl rfl rfl ?_; conv => whnf))
   | (show DrawN _ _ _ _ _ _; first
     | (refine DrawN.run (by decide +kernel) ?_; conv => whnf))
  all_goals exact RetN.all ⟨_, _, rfl, (Nz.mono (by assumption) (by (iterate 30 (try first | assumption | exact Heap.le_refl _)); first | done | assumption)), (Nz.mono (by assumption) (by (iterate 30 (try first | assumption | exact Heap.le_refl _)); first | done | assumption))⟩
end Go.Proofs.YtdemgbmndijkkaaGreatDoor