/- Package elem: whole numbers as multiples of 2^-w, pairs, the numbers that they denote. -/
import Derived.Test.YtdemgbmndijkkaaGreatDoorEL0
set_option linter.unusedVariables false
set_option linter.unusedSimpArgs false
namespace Go.Proofs.YtdemgbmndijkkaaGreatDoor
open Go Go.Vc Go.Dig
set_option maxRecDepth 20000 in
theorem unit_ct (h : Heap) (w : Nat) (x : Int) (hx : x = w) (hw : w ≤ 2000) : Fn0 T F.elem_unit [.int .i64 x] h fun v h' => ∃ s : Sl, v = s.val ∧ Nz h' s (2 ^ w) 2003 := by
  subst hx
  refine fn0_of_codeI ok D.elem_unit rfl ?_
  conv => whnf
  repeat ((first | refine opsI.step ?_ | refine codeI.step ?_); conv => whnf)
  repeat' first
   | (show CallN _ _ _ _ _ _; first
     | (refine CallN.fn rfl (SmallZ _ 1 (by omega)) (fun v h' hl hr => ?_); obtain ⟨s', rfl, hs'⟩ := hr; conv => whnf)
     | (refine CallN.fn rfl (ShlZ _ _ _ _ w _ rfl (Nz.mono (by assumption) (by (iterate 30 (try first | assumption | exact Heap.le_refl _)); first | done | assumption)) (by omega) hw) (fun v h' hl hr => ?_); obtain ⟨s', rfl, hs'⟩ := hr; conv => whnf))
   | ((first | refine opsI.step ?_ | refine codeI.step ?_); conv => whnf)
  exact RetN.all ⟨_, rfl, Nz.re (by assumption) (Nat.one_mul _)⟩
set_option maxRecDepth 20000 in
theorem over_ct (h : Heap) (a d : Sl) (m n k l : Nat) (c : Bool) (ha : Nz h a m k) (hd : Nz h d n l) (hk : k ≤ 900000) (hl : l ≤ 900000) (h0 : n ≠ 0) :
    Fn0 T F.elem_over [a.val, d.val, .bool c] h fun v h' => ∃ s : Sl, v = s.val ∧ Nz h' s (if c then An.cd m n else m / n) (k + 3) := by
  refine fn0_of_codeI ok D.elem_over rfl ?_
  conv => whnf
  repeat ((first | refine opsI.step ?_ | refine codeI.step ?_); conv => whnf)
  repeat' first
   | (show SeqN _ _ _ _ _ _ _; first
     | (refine SeqN.go ?_; conv => whnf))
   | (show CallN _ _ _ _ _ _; first
     | (refine CallN.fn rfl (DivZ _ _ _ _ _ _ _ (Nz.mono (by assumption) (by (iterate 30 (try first | assumption | exact Heap.le_refl _)); first | done | assumption)) (Nz.mono (by assumption) (by (iterate 30 (try first | assumption | exact Heap.le_refl _)); first | done | assumption)) (by omega) (by omega) h0) (fun v h' hl hr => ?_); obtain ⟨q', r', rfl, hq', hr'⟩ := hr; conv => whnf)
     | (refine CallN.quiet rfl (ZeroZ _ _ _ _ (Nz.mono (by assumption) (by (iterate 30 (try first | assumption | exact Heap.le_refl _)); first | done | assumption)) (by omega)) ?_; conv => whnf)
     | (refine CallN.fn rfl (SmallZ _ 1 (by omega)) (fun v h' hl hr => ?_); obtain ⟨s', rfl, hs'⟩ := hr; conv => whnf)
     | (refine CallN.fn rfl (AddZ _ _ _ _ _ _ _ (Nz.mono (by assumption) (by assumption)) (Nz.mono (by assumption) (by (iterate 30 (try first | assumption | exact Heap.le_refl _)); first | done | assumption)) (by omega) (by omega)) (fun v h' hl hr => ?_); obtain ⟨s', rfl, hs'⟩ := hr; conv => whnf))
   | ((first | refine opsI.step ?_ | refine codeI.step ?_); conv => whnf)
   | (show cnd _ _ _; first
     | (refine cnd_not ?_)
     | (refine cnd_dec (fun _ => ?_) (fun _ => ?_) <;> first | (exfalso; omega) | (conv => whnf))
     | (refine cnd_bool (fun hb => ?_) (fun hb => ?_) <;> (first | cases hb | subst hb) <;> (conv => whnf)))
  all_goals first
    | exact RetN.all ⟨_, rfl, (Nz.up (Nz.re (by assumption) (by first | (subst_vars; rw [if_pos rfl, An.cd, if_neg (by assumption)]) | (subst_vars; rw [if_pos rfl, An.cd, if_pos (by assumption)]; rfl) | (subst_vars; rw [if_neg (by decide)]))) (by omega))⟩
    | skip
set_option maxRecDepth 20000 in
theorem up_ct (h : Heap) (tb : Tb h) (a : Sl) (m k n : Nat) (x : Int) (hx : x = n) (ha : Nz h a m k) (hk : k ≤ 900000) (hn : n ≤ 2000) :
    Fn0 T F.elem_up [a.val, .int .i64 x] h fun v h' => ∃ s : Sl, v = s.val ∧ Nz h' s (An.cd m (2 ^ n)) (k + 3) := by
  subst hx
  refine fn0_of_codeI ok D.elem_up rfl ?_
  conv => whnf
  repeat ((first | refine opsI.step ?_ | refine codeI.step ?_); conv => whnf)
  repeat' first
   | (show SeqN _ _ _ _ _ _ _; first
     | (refine SeqN.go ?_; conv => whnf))
   | (show CallN _ _ _ _ _ _; first
     | (refine CallN.fn rfl (ShrZ _ _ _ _ n _ rfl (Nz.mono (by assumption) (by (iterate 30 (try first | assumption | exact Heap.le_refl _)); first | done | assumption)) (by omega) hn) (fun v h' hl hr => ?_); obtain ⟨s', rfl, hs'⟩ := hr; conv => whnf)
     | (refine CallN.quiet rfl (LowZ _ (by (iterate 30 (try first | assumption | refine Tb.mono ?_ (by assumption))); first | done | assumption) _ _ _ n _ rfl (Nz.mono (by assumption) (by assumption)) (by omega) hn) ?_; conv => whnf)
     | (refine CallN.fn rfl (SmallZ _ 1 (by omega)) (fun v h' hl hr => ?_); obtain ⟨s', rfl, hs'⟩ := hr; conv => whnf)
     | (refine CallN.fn rfl (AddZ _ _ _ _ _ _ _ (Nz.mono (by assumption) (by assumption)) (Nz.mono (by assumption) (by (iterate 30 (try first | assumption | exact Heap.le_refl _)); first | done | assumption)) (by omega) (by omega)) (fun v h' hl hr => ?_); obtain ⟨s', rfl, hs'⟩ := hr; conv => whnf))
   | ((first | refine opsI.step ?_ | refine codeI.step ?_); conv => whnf)
   | (show cnd _ _ _; first
     | (refine cnd_dec (fun _ => ?_) (fun _ => ?_) <;> first | (exfalso; omega) | (conv => whnf)))
  all_goals first
    | exact RetN.all ⟨_, rfl, (Nz.up (Nz.re (by assumption) (by first | rw [An.cd, if_neg (by assumption)] | (rw [An.cd, if_pos (Decidable.of_not_not (by assumption))]; rfl))) (by omega))⟩
    | skip
/-- the number of a numerator over a power of two -/
theorem mkQ_pow2 (m n : Nat) : mkQ false m (2 ^ n) = (m : Rat) / ((2 ^ n : Nat) : Rat) := by
  unfold mkQ
  rw [if_neg (by decide), Rat.mkRat_eq_div]
  rfl
theorem mkQ_flip' (m n : Nat) : mkQ true m n = -mkQ false m n := by
  unfold mkQ
  simp [Rat.neg_mkRat]
theorem mkQ_pow2n (m n : Nat) : mkQ true m (2 ^ n) = - ((m : Rat) / ((2 ^ n : Nat) : Rat)) := by
  rw [mkQ_flip', mkQ_pow2]
set_option maxRecDepth 20000 in
theorem rational_ct (h : Heap) (tb : Tb h) (a : Sl) (m k n : Nat) (neg : Bool) (x : Int) (hx : x = n) (ha : Nz h a m k) (hk : ln 4294967296 m ≤ 64) (hn : n ≤ 2000) :
    Fn0 T F.elem_rational [a.val, .int .i64 x, .bool neg] h fun v h' => ∃ c d : Sl, v = .agg #[.bool (sg (mkQ neg m (2 ^ n))), c.val, d.val] ∧ IsRat h' c d (mkQ neg m (2 ^ n)) ∧ fits (mkQ neg m (2 ^ n)) := by
  subst hx
  have hp0 : (2 ^ n : Nat) ≠ 0 := Nat.ne_of_gt (Nat.two_pow_pos n)
  have hle := mkQ_le neg (m := m) hp0
  have hl2 : ln 4294967296 (2 ^ n) ≤ 63 := ln_two_pow_le (by omega)
  have hf : fits (mkQ neg m (2 ^ n)) := ⟨Nat.le_trans (ln_le_of_le hle.1) hk, Nat.le_trans (ln_le_of_le hle.2) (by omega)⟩
  have hr : ratOf neg (dg 4294967296 m) (dg 4294967296 (2 ^ n)) = mkQ neg m (2 ^ n) := by
    unfold ratOf
    rw [evl_dg two_le_B, evl_dg two_le_B, if_neg hp0]
  have hok : okR neg (dg 4294967296 m) (dg 4294967296 (2 ^ n)) := by
    unfold okR
    rw [evl_dg two_le_B, evl_dg two_le_B, hr]; exact ⟨by omega, by omega, hf⟩
  have hval : ∀ h (a b : Sl), IsNat h a m → IsNat h b (2 ^ n) → IsVal h a b (dg 4294967296 m) (dg 4294967296 (2 ^ n)) := fun h a b u v =>
    ⟨u, v, fun x hx => dg_lt two_le_B _ _ hx, fun x hx => dg_lt two_le_B _ _ hx, by unfold ln at hk; omega, by unfold ln at hl2; omega⟩
  have hs : spec1 (fun q => q) neg (dg 4294967296 m) (dg 4294967296 (2 ^ n)) = (mkQ neg m (2 ^ n), 0) := by
    unfold spec1
    rw [if_pos hok, hr]; exact if_pos hf
  obtain ⟨q, hq⟩ : ∃ q, q = mkQ neg m (2 ^ n) := ⟨_, rfl⟩
  rw [← hq] at hs hf ⊢
  clear hr hok hle hq
  obtain ⟨P, hP⟩ : ∃ P, P = 2 ^ n := ⟨_, rfl⟩
  have hu := unit_ct
  refine fn0_of_codeI ok D.elem_rational rfl ?_
  conv => whnf
  repeat ((first | refine opsI.step ?_ | refine codeI.step ?_); conv => whnf)
  repeat' first
   | (show CallN _ _ _ _ _ _; first
     | (refine CallN.fn rfl (unit_ct _ n _ rfl hn) (fun v h' hl hr => ?_); obtain ⟨s', rfl, hs'⟩ := hr; conv => whnf)
     | (refine CallN.fn rfl (NCanon_ct _ (by (iterate 30 (try first | assumption | refine Tb.mono ?_ (by assumption))); first | done | assumption) _ _ _ _ _ (hval _ _ _ (Nz.is (Nz.mono (by assumption) (by assumption))) (Nz.is (Nz.mono (by assumption) (by (iterate 30 (try first | assumption | exact Heap.le_refl _)); first | done | assumption))))) (fun v h' hl hr => ?_); rw [hs] at hr; obtain ⟨c, d, rfl, hr'⟩ := hr; conv => whnf))
   | ((first | refine opsI.step ?_ | refine codeI.step ?_); conv => whnf)
   | (intro (_ : Nat); conv => whnf)
   | (show LdN _ _ _ _ _; first
     | (refine LdN.own 0 rfl rfl ?_; conv => whnf)
     | (refine LdN.own 1 rfl rfl ?_; conv => whnf))
   | (show Sto _ _ _ _; first
     | (refine Sto.lit 0 rfl rfl rfl ?_; conv => whnf)
     | (refine Sto.lit 1 rfl rfl rfl ?_; conv => whnf))
  exact RetN.all ⟨_, _, rfl, (by assumption), hf⟩

theorem fits_sz64 {q : Rat} (h : fits q) : Sz 64 q := ⟨h.1, h.2⟩
/-- a pair of whole numbers -/
def PairR (h : Heap) (v : Value) (lo hi k : Nat) : Prop := ∃ a b : Sl, v = .agg #[a.val, b.val] ∧ Nz h a lo k ∧ Nz h b hi k
set_option maxRecDepth 20000 in
theorem whole_ct (h : Heap) (neg : Bool) (a b : Sl) (q : Rat) (hq : IsRat h a b q) (hs : ln 4294967296 q.den ≤ 1000) : Fn0 T F.elem_whole [.agg #[.bool neg, a.val, b.val]] h fun v h' => ∃ s : Sl, v = s.val ∧ Nz h' s q.den 1000 := by
  have w := hq.den
  have wl := w.len
  have hz := ln_eq_zero two_le_B (n := if q.den = 1 then 0 else q.den)
  have hd := q.den_nz
  refine fn0_of_codeI ok D.elem_whole rfl ?_
  conv => whnf
  repeat ((first | refine opsI.step ?_ | refine codeI.step ?_); conv => whnf)
  repeat' first
   | (show CallN _ _ _ _ _ _; first
     | (refine CallN.fn rfl (SmallZ _ 1 (by omega)) (fun v h' hl hr => ?_); obtain ⟨s', rfl, hs'⟩ := hr; conv => whnf))
   | ((first | refine opsI.step ?_ | refine codeI.step ?_); conv => whnf)
   | (intro (_ : Nat); conv => whnf)
   | (show cnd _ _ _; first
     | (refine cnd_eq (fun _ => ?_) (fun _ => ?_) <;> first | (exfalso; omega) | (conv => whnf)))
   | (show Ld _ _ _ _; first
     | (refine Ld.own 0 rfl rfl ?_; conv => whnf))
  · have e : (if q.den = 1 then 0 else q.den) = 0 := hz.1 (by omega)
    have e1 : q.den = 1 := by
      by_cases g : q.den = 1
      · exact g
      · rw [if_neg g] at e; exact absurd e hd
    exact RetN.all ⟨_, rfl, Nz.up (Nz.re (by assumption) e1.symm) (by omega)⟩
  · have e : q.den ≠ 1 := fun g => by
      rw [if_pos g] at wl
      have : ln 4294967296 0 = 0 := (ln_eq_zero two_le_B).2 rfl
      omega
    rw [if_neg e] at w
    exact RetN.all ⟨_, rfl, w.mono (by (iterate 30 (try first | assumption | exact Heap.le_refl _)); first | done | assumption), hs⟩
set_option maxRecDepth 20000 in
theorem scaled_ct (h : Heap) (tb : Tb h) (neg : Bool) (a b : Sl) (q : Rat) (w : Nat) (x : Int) (hx : x = w) (hq : IsRat h a b q) (hs : Sz 64 q) (hw : w ≤ 1000) :
    Fn0 T F.elem_scaled [.agg #[.bool neg, a.val, b.val], .int .i64 x] h fun v h' => PairR h' v (nu q * 2 ^ w / q.den) (An.cd (nu q * 2 ^ w) q.den) 3000 := by
  subst hx
  have hn : Nz h a (nu q) 64 := ⟨hq.num, hs.num⟩
  have hd0 := q.den_nz
  have hd : Nz h b (if q.den = 1 then 0 else q.den) 64 := ⟨hq.den, by split; exact Nat.le_trans (Nat.le_of_eq ((ln_eq_zero two_le_B).2 rfl)) (by omega); exact hs.den⟩
  obtain ⟨d, hdd⟩ : ∃ d, d = (if q.den = 1 then 0 else q.den) := ⟨_, rfl⟩
  rw [← hdd] at hd
  have hd1 : d = 0 → q.den = 1 := fun e => by
    by_cases g : q.den = 1
    · exact g
    · rw [hdd, if_neg g] at e; exact absurd e hd0
  have hd2 : d ≠ 0 → q.den = d := fun e => by
    by_cases g : q.den = 1
    · rw [hdd, if_pos g] at e; exact absurd rfl e
    · rw [hdd, if_neg g]
  obtain ⟨E, hE⟩ : ∃ E, E = q.den := ⟨_, rfl⟩
  obtain ⟨N, hN⟩ : ∃ N, N = nu q * 2 ^ w := ⟨_, rfl⟩
  rw [← hE] at hd0 hd1 hd2 ⊢
  rw [← hN]
  clear hdd hE hq hs
  have e1 : N % E = 0 → An.cd N E = N / E := fun e => by rw [An.cd, if_pos e]; rfl
  have e2 : N % E ≠ 0 → An.cd N E = N / E + 1 := fun e => by rw [An.cd, if_neg e]
  refine fn0_of_codeI ok D.elem_scaled rfl ?_
  conv => whnf
  repeat ((first | refine opsI.step ?_ | refine codeI.step ?_); conv => whnf)
  repeat' first
   | (show SeqN _ _ _ _ _ _ _; first
     | (refine SeqN.go ?_; conv => whnf))
   | (show CallN _ _ _ _ _ _; first
     | (refine CallN.fn rfl (OfZ _ _ _ _ (Nz.mono (by assumption) (by (iterate 30 (try first | assumption | exact Heap.le_refl _ | refine Heap.le_trans ?_ (by assumption))); first | done | assumption)) (by omega)) (fun v h' hl hr => ?_); obtain ⟨s', rfl, hs'⟩ := hr; conv => whnf)
     | (refine CallN.quiet rfl (ZeroZ _ _ _ _ (Nz.mono (by assumption) (by (iterate 30 (try first | assumption | exact Heap.le_refl _)); first | done | assumption)) (by omega)) ?_; conv => whnf)
     | (refine CallN.fn rfl (SmallZ _ 1 (by omega)) (fun v h' hl hr => ?_); obtain ⟨s', rfl, hs'⟩ := hr; conv => whnf)
     | (refine CallN.fn rfl (ShlZ _ _ _ _ w _ rfl (Nz.mono (by assumption) (by (iterate 30 (try first | assumption | exact Heap.le_refl _)); first | done | assumption)) (by omega) (by omega)) (fun v h' hl hr => ?_); rw [← hN] at hr; obtain ⟨s', rfl, hs'⟩ := hr; conv => whnf)
     | (refine CallN.fn rfl (DivZ _ _ _ _ _ _ _ (Nz.mono (by assumption) (by (iterate 30 (try first | assumption | exact Heap.le_refl _)); first | done | assumption)) (Nz.mono (by assumption) (by (iterate 30 (try first | assumption | refine Heap.le_trans ?_ (by assumption))); first | done | assumption)) (by omega) (by omega) (by first | assumption | omega)) (fun v h' hl hr => ?_); obtain ⟨q', r', rfl, hq', hr'⟩ := hr; conv => whnf)
     | (refine CallN.fn rfl (AddZ _ _ _ _ _ _ _ (Nz.mono (by assumption) (by assumption)) (Nz.mono (by assumption) (by (iterate 30 (try first | assumption | exact Heap.le_refl _)); first | done | assumption)) (by omega) (by omega)) (fun v h' hl hr => ?_); obtain ⟨s', rfl, hs'⟩ := hr; conv => whnf))
   | ((first | refine opsI.step ?_ | refine codeI.step ?_); conv => whnf)
   | (intro (_ : Nat); conv => whnf)
   | (show cnd _ _ _; first
     | (refine cnd_dec (fun _ => ?_) (fun _ => ?_) <;> first | (exfalso; omega) | (conv => whnf)))
   | (show LdN _ _ _ _ _; first
     | (refine LdN.own 0 rfl rfl ?_; conv => whnf))
   | (show Ld _ _ _ _; first
     | (refine Ld.own 1 rfl rfl ?_; conv => whnf))
   | (show Sto _ _ _ _; first
     | (refine Sto.lit 0 rfl rfl rfl ?_; conv => whnf))
  all_goals first
    | (rw [e1 (by rw [hd1 (by assumption)]; assumption), hd1 (by assumption)]; exact RetN.all ⟨_, _, rfl, Nz.up (Nz.mono (by assumption) (by (iterate 30 (try first | assumption | exact Heap.le_refl _)); first | done | assumption)) (by omega), Nz.up (Nz.mono (by assumption) (by (iterate 30 (try first | assumption | exact Heap.le_refl _)); first | done | assumption)) (by omega)⟩)
    | (rw [e2 (by rw [hd1 (by assumption)]; assumption), hd1 (by assumption)]; exact RetN.all ⟨_, _, rfl, Nz.up (Nz.mono (by assumption) (by assumption)) (by omega), Nz.up (Nz.mono (by assumption) (by assumption)) (by omega)⟩)
    | (rw [e1 (by rw [hd2 (by assumption)]; assumption), hd2 (by assumption)]; exact RetN.all ⟨_, _, rfl, Nz.up (Nz.mono (by assumption) (by (iterate 30 (try first | assumption | exact Heap.le_refl _)); first | done | assumption)) (by omega), Nz.up (Nz.mono (by assumption) (by (iterate 30 (try first | assumption | exact Heap.le_refl _)); first | done | assumption)) (by omega)⟩)
    | (rw [e2 (by rw [hd2 (by assumption)]; assumption), hd2 (by assumption)]; exact RetN.all ⟨_, _, rfl, Nz.up (Nz.mono (by assumption) (by (iterate 30 (try first | assumption | refine Heap.le_trans ?_ (by assumption))); first | done | assumption)) (by omega), Nz.up (Nz.mono (by assumption) (by (iterate 30 (try first | assumption | exact Heap.le_refl _)); first | done | assumption)) (by omega)⟩)
    | skip
set_option maxRecDepth 20000 in
theorem square_ct (h : Heap) (tb : Tb h) (a b : Sl) (m n k w : Nat) (x : Int) (hx : x = w) (ha : Nz h a m k) (hb : Nz h b n k) (hk : k ≤ 100000) (hw : w ≤ 2000) :
    Fn0 T F.elem_pair_square [.agg #[a.val, b.val], .int .i64 x] h fun v h' => PairR h' v (m * m / 2 ^ w) (An.cd (n * n) (2 ^ w)) (k + k + 3) := by
  subst hx
  refine fn0_of_codeI ok D.elem_pair_square rfl ?_
  conv => whnf
  repeat ((first | refine opsI.step ?_ | refine codeI.step ?_); conv => whnf)
  repeat' first
   | (show CallN _ _ _ _ _ _; first
     | (refine CallN.fn rfl (MulZ _ _ _ _ _ _ _ (Nz.mono (by assumption) (by (iterate 30 (try first | assumption | exact Heap.le_refl _ | refine Heap.le_trans ?_ (by assumption))); first | done | assumption)) (Nz.mono (by assumption) (by (iterate 30 (try first | assumption | exact Heap.le_refl _ | refine Heap.le_trans ?_ (by assumption))); first | done | assumption)) (by omega) (by omega)) (fun v h' hl hr => ?_); obtain ⟨s', rfl, hs'⟩ := hr; conv => whnf)
     | (refine CallN.fn rfl (ShrZ _ _ _ _ w _ rfl (Nz.mono (by assumption) (by (iterate 30 (try first | assumption | exact Heap.le_refl _)); first | done | assumption)) (by omega) hw) (fun v h' hl hr => ?_); obtain ⟨s', rfl, hs'⟩ := hr; conv => whnf)
     | (refine CallN.fn rfl (up_ct _ (by (iterate 30 (try first | assumption | refine Tb.mono ?_ (by assumption))); first | done | assumption) _ _ _ w _ rfl (Nz.mono (by assumption) (by (iterate 30 (try first | assumption | exact Heap.le_refl _)); first | done | assumption)) (by omega) hw) (fun v h' hl hr => ?_); obtain ⟨s', rfl, hs'⟩ := hr; conv => whnf))
   | ((first | refine opsI.step ?_ | refine codeI.step ?_); conv => whnf)
   | (refine ⟨fun _ => HasLe.of_le (by assumption), ?_⟩; conv => whnf)
   | (refine ⟨fun hst => (by cases (show true = false from hst)), ?_⟩; conv => whnf)
   | (intro (_ : Nat); conv => whnf)
   | (show LdN _ _ _ _ _; first
     | (refine LdN.own 0 rfl rfl ?_; conv => whnf))
   | (show Ld _ _ _ _; first
     | (refine Ld.own 1 rfl rfl ?_; conv => whnf))
   | (show Sto _ _ _ _; first
     | (refine Sto.lit 0 rfl rfl rfl ?_; conv => whnf))
   | (show DrawN _ _ _ _ _ _; first
     | (refine DrawN.run (by decide +kernel) ?_; conv => whnf))
  all_goals exact RetN.all ⟨_, _, rfl, Nz.up (Nz.mono (by assumption) (by (iterate 30 (try first | assumption | refine Heap.le_trans ?_ (by assumption))); first | done | assumption)) (by omega), Nz.up (Nz.mono (by assumption) (by (iterate 30 (try first | assumption | exact Heap.le_refl _)); first | done | assumption)) (by omega)⟩
set_option maxRecDepth 20000 in
theorem times_ct (h : Heap) (a b : Sl) (m n k w : Nat) (x : Int) (hx : x = w) (ha : Nz h a m k) (hb : Nz h b n k) (hk : k ≤ 100000) (hw : w ≤ 2000) :
    Fn0 T F.elem_pair_times [.agg #[a.val, b.val], .int .i64 x] h fun v h' => PairR h' v (m * 2 ^ w) (n * 2 ^ w) (k + 2001) := by
  subst hx
  refine fn0_of_codeI ok D.elem_pair_times rfl ?_
  conv => whnf
  repeat ((first | refine opsI.step ?_ | refine codeI.step ?_); conv => whnf)
  repeat' first
   | (show CallN _ _ _ _ _ _; first
     | (refine CallN.fn rfl (ShlZ _ _ _ _ w _ rfl (Nz.mono (by assumption) (by (iterate 30 (try first | assumption | exact Heap.le_refl _)); first | done | assumption)) (by omega) hw) (fun v h' hl hr => ?_); obtain ⟨s', rfl, hs'⟩ := hr; conv => whnf))
   | ((first | refine opsI.step ?_ | refine codeI.step ?_); conv => whnf)
   | (refine ⟨fun _ => HasLe.of_le (by assumption), ?_⟩; conv => whnf)
   | (refine ⟨fun hst => (by cases (show true = false from hst)), ?_⟩; conv => whnf)
   | (intro (_ : Nat); conv => whnf)
   | (show LdN _ _ _ _ _; first
     | (refine LdN.own 0 rfl rfl ?_; conv => whnf))
   | (show Ld _ _ _ _; first
     | (refine Ld.own 1 rfl rfl ?_; conv => whnf))
   | (show Sto _ _ _ _; first
     | (refine Sto.lit 0 rfl rfl rfl ?_; conv => whnf))
   | (show DrawN _ _ _ _ _ _; first
     | (refine DrawN.run (by decide +kernel) ?_; conv => whnf))
  all_goals exact RetN.all ⟨_, _, rfl, (Nz.mono (by assumption) (by assumption)), (Nz.mono (by assumption) (by (iterate 30 (try first | assumption | exact Heap.le_refl _)); first | done | assumption))⟩
/-- a bracket -/
def BrR (h : Heap) (v : Value) (lo hi : Rat) : Prop := ∃ a b c d : Sl, v = .agg #[.bool (sg lo), a.val, b.val, .bool (sg hi), c.val, d.val] ∧ IsRat h a b lo ∧ IsRat h c d hi ∧ fits lo ∧ fits hi
set_option maxRecDepth 20000 in
theorem bracket_ct (h : Heap) (tb : Tb h) (a b : Sl) (m n k w p : Nat) (x y : Int) (hx : x = w) (hy : y = p) (ha : Nz h a m k) (hb : Nz h b n k) (hk : k ≤ 100000) (hpw : p ≤ w) (hw : w ≤ 1000) (h1 : ln 4294967296 (m / 2 ^ (w - p)) ≤ 64) (h2 : ln 4294967296 (An.cd n (2 ^ (w - p))) ≤ 64) :
    Fn0 T F.elem_pair_bracket [.agg #[a.val, b.val], .int .i64 x, .int .i64 y, .bool false] h fun v h' => BrR h' v (mkQ false (m / 2 ^ (w - p)) (2 ^ p)) (mkQ false (An.cd n (2 ^ (w - p))) (2 ^ p)) := by
  subst hx hy
  obtain ⟨u, hu⟩ : ∃ u, u = w - p := ⟨_, rfl⟩
  rw [← hu] at h1 h2 ⊢
  refine fn0_of_codeI ok D.elem_pair_bracket rfl ?_
  conv => whnf
  repeat ((first | refine opsI.step ?_ | refine codeI.step ?_); conv => whnf)
  repeat' first
   | (show SeqN _ _ _ _ _ _ _; first
     | (refine SeqN.go ?_; conv => whnf))
   | (show CallN _ _ _ _ _ _; first
     | (refine CallN.fn rfl (ShrZ _ _ _ _ u _ (by omega) (Nz.mono (by assumption) (by (iterate 30 (try first | assumption | exact Heap.le_refl _)); first | done | assumption)) (by omega) (by omega)) (fun v h' hl hr => ?_); obtain ⟨s', rfl, hs'⟩ := hr; conv => whnf)
     | (refine CallN.fn rfl (up_ct _ (by (iterate 30 (try first | assumption | refine Tb.mono ?_ (by assumption))); first | done | assumption) _ _ _ u _ (by omega) (Nz.mono (by assumption) (by (iterate 30 (try first | assumption | refine Heap.le_trans ?_ (by assumption))); first | done | assumption)) (by omega) (by omega)) (fun v h' hl hr => ?_); obtain ⟨s', rfl, hs'⟩ := hr; conv => whnf)
     | (refine CallN.fn rfl (rational_ct _ (by (iterate 30 (try first | assumption | refine Tb.mono ?_ (by assumption))); first | done | assumption) _ _ _ p false _ rfl (Nz.mono (by assumption) (by (iterate 30 (try first | assumption | exact Heap.le_refl _)); first | done | assumption)) (by assumption) (by omega)) (fun v h' hl hr => ?_); obtain ⟨c', d', rfl, hr', hf'⟩ := hr; conv => whnf))
   | ((first | refine opsI.step ?_ | refine codeI.step ?_); conv => whnf)
   | (refine ⟨fun _ => HasLe.of_le (by assumption), ?_⟩; conv => whnf)
   | (refine ⟨fun _ => HasLe.cons _, ?_⟩; conv => whnf)
   | (refine ⟨fun hst => (by cases (show true = false from hst)), ?_⟩; conv => whnf)
   | (intro (_ : Nat); conv => whnf)
   | (show WrapN _ _ _; first
     | (refine WrapN.i64 (by omega) (by omega) ?_; conv => whnf))
   | (show LdN _ _ _ _ _; first
     | (refine LdN.own 0 rfl rfl ?_; conv => whnf)
     | (refine LdN.own 1 rfl rfl ?_; conv => whnf))
   | (show Ld _ _ _ _; first
     | (refine Ld.own 1 rfl rfl ?_; conv => whnf))
   | (show Sto _ _ _ _; first
     | (refine Sto.lit 0 rfl rfl rfl ?_; conv => whnf)
     | (refine Sto.lit 1 rfl rfl rfl ?_; conv => whnf))
   | (show DrawN _ _ _ _ _ _; first
     | (refine DrawN.run (by decide +kernel) ?_; conv => whnf))
   | (show Both _ _; first
     | (refine Both.mk ?_ ?_ <;> (conv => whnf)))
  all_goals exact RetN.all ⟨_, _, _, _, rfl, (by (iterate 30 (try first | assumption | refine IsRat.mono ?_ (by assumption))); first | done | assumption), (by assumption), by assumption, by assumption⟩
end Go.Proofs.YtdemgbmndijkkaaGreatDoor