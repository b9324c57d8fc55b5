/- Package elem: rounding outward, differences of multiples of 2^-w. -/
import Derived.Test.YtdemgbmndijkkaaGreatDoorEL3
set_option linter.unusedVariables false
set_option linter.unusedSimpArgs false
namespace Go.Proofs.YtdemgbmndijkkaaGreatDoor
open Go Go.Vc Go.Dig
theorem grid_fits {q : Rat} {e p : Nat} (up : Bool) (hq : nu q ≤ 2 ^ e) (he : e + p ≤ 2000) : fits (gridQ q p up) := by
  rw [grid_eq]
  obtain ⟨c, hc, hc1⟩ : ∃ c, c = (if up = sg q ∨ nu q * 2 ^ p % q.den = 0 then 0 else 1) ∧ c ≤ 1 := ⟨_, rfl, by split <;> omega⟩
  rw [← hc]
  have h1 : nu q * 2 ^ p / q.den ≤ 2 ^ (e + p) := by
    rw [Nat.pow_add]; exact Nat.le_trans (Nat.div_le_self _ _) (Nat.mul_le_mul_right _ hq)
  have h2 := mkQ_le (sg q) (m := nu q * 2 ^ p / q.den + c) (Nat.ne_of_gt (Nat.two_pow_pos p))
  have h3 := Nat.two_pow_pos (e + p)
  exact ⟨Nat.le_trans (ln_le_of_le (Nat.le_trans h2.1 (show _ ≤ 2 ^ (e + p + 1) by rw [Nat.pow_succ]; omega))) (ln_two_pow_le (by omega)), Nat.le_trans (ln_le_of_le h2.2) (ln_two_pow_le (by omega))⟩
theorem gridR_ok {q : Rat} {p : Nat} {up : Bool} (hp : p ≤ 256) (hf : fits (gridQ q p up)) : gridR up (some q) (p : Int) = (gridQ q p up, 0) := by
  show (if (p : Int) < 0 ∨ 256 < (p : Int) then (0, 2) else outR (gridQ q (p : Int).toNat up)) = _
  rw [if_neg (by omega), Int.toNat_natCast]; exact if_pos hf
set_option maxRecDepth 20000 in
theorem rounded_ct (h : Heap) (tb : Tb h) (a b c d : Sl) (q r : Rat) (e p : Nat) (x : Int) (hx : x = p) (hq : IsRat h a b q) (hr : IsRat h c d r) (fq : fits q) (fr : fits r) (bq : nu q ≤ 2 ^ e) (br : nu r ≤ 2 ^ e) (he : e ≤ 1500) (hp : p ≤ 256) :
    Fn0 T F.elem_rounded [.agg #[.bool (sg q), a.val, b.val], .agg #[.bool (sg r), c.val, d.val], .int .i64 x] h fun v h' => BrR h' v (gridQ q p false) (gridQ r p true) := by
  subst hx
  have g1 := grid_fits false bq (p := p) (by omega)
  have g2 := grid_fits true br (p := p) (by omega)
  have k1 := fun h tb w => DownN h (sg q) a b (some q) (p : Int) tb w
  have k2 := fun h tb w => UpN h (sg r) c d (some r) (p : Int) tb w
  rw [gridR_ok hp g1] at k1
  rw [gridR_ok hp g2] at k2
  obtain ⟨u, hu⟩ : ∃ u, u = gridQ q p false := ⟨_, rfl⟩
  obtain ⟨v, hv⟩ : ∃ v, v = gridQ r p true := ⟨_, rfl⟩
  rw [← hu] at g1 k1 ⊢
  rw [← hv] at g2 k2 ⊢
  have n1 := hq.isnum fq
  have n2 := hr.isnum fr
  obtain ⟨s1, hs1⟩ : ∃ s, s = sg q := ⟨_, rfl⟩
  obtain ⟨s2, hs2⟩ : ∃ s, s = sg r := ⟨_, rfl⟩
  rw [← hs1] at n1 k1 ⊢
  rw [← hs2] at n2 k2 ⊢
  refine fn0_of_codeI ok D.elem_rounded rfl ?_
  conv => whnf
  repeat ((first | refine opsI.step ?_ | refine codeI.step ?_); conv => whnf)
  repeat' first
   | (show CallN _ _ _ _ _ _; first
     | (refine CallN.fn rfl (k1 _ (by assumption) (by assumption)) (fun v h' hl hr => ?_); obtain ⟨a', b', rfl, hr1, hr2⟩ := hr; conv => whnf)
     | (refine CallN.fn rfl (k2 _ (by (iterate 30 (try first | assumption | refine Tb.mono ?_ (by assumption))); first | done | assumption) (by (iterate 30 (try first | assumption | refine IsNum.mono ?_ (by assumption))); first | done | assumption)) (fun v h' hl hr => ?_); obtain ⟨a', b', rfl, hr1, hr2⟩ := hr; conv => whnf))
   | ((first | refine opsI.step ?_ | refine codeI.step ?_); conv => whnf)
   | (intro (_ : Nat); conv => whnf)
   | (show LdN _ _ _ _ _; first
     | (refine LdN.own 0 rfl rfl ?_; conv => whnf)
     | (refine LdN.own 1 rfl rfl ?_; conv => whnf)
     | (refine LdN.own 2 rfl rfl ?_; conv => whnf))
   | (show Sto _ _ _ _; first
     | (refine Sto.lit 0 rfl rfl rfl ?_; conv => whnf)
     | (refine Sto.lit 1 rfl rfl rfl ?_; conv => whnf)
     | (refine Sto.lit 2 rfl rfl rfl ?_; conv => whnf))
  all_goals exact RetN.all ⟨_, _, _, _, rfl, (by (iterate 30 (try first | assumption | refine IsRat.mono ?_ (by assumption))); first | done | assumption), (by assumption), g1, g2⟩
/-- a difference over one denominator -/
theorem mkQ_diff (b a P : Nat) (hP : P ≠ 0) : ∃ s n, mkQ false b P - mkQ false a P = mkQ s n P ∧ n ≤ max a b := by
  have e : ∀ m : Nat, mkQ false m P = (m : Rat) / (P : Rat) := fun m => by
    unfold mkQ
    rw [if_neg (by decide), Rat.mkRat_eq_div]; rfl
  rcases Nat.le_total a b with h | h
  · refine ⟨false, b - a, ?_, by omega⟩
    have : ((b - a : Nat) : Rat) + (a : Rat) = (b : Rat) := by rw [← Rat.natCast_add]; congr 1; omega
    rw [e, e, e]; grind
  · refine ⟨true, a - b, ?_, by omega⟩
    have : ((a - b : Nat) : Rat) + (b : Rat) = (a : Rat) := by rw [← Rat.natCast_add]; congr 1; omega
    rw [mkQ_flip', e, e, e]; grind
theorem diff_fits {b a e w : Nat} (ha : a ≤ 2 ^ e) (hb : b ≤ 2 ^ e) (he : e ≤ 1500) (hw : w ≤ 1500) : fits (mkQ false b (2 ^ w) - mkQ false a (2 ^ w)) ∧ nu (mkQ false b (2 ^ w) - mkQ false a (2 ^ w)) ≤ 2 ^ e := by
  have hP : (2 ^ w : Nat) ≠ 0 := Nat.ne_of_gt (Nat.two_pow_pos w)
  obtain ⟨s, n, h1, h2⟩ := mkQ_diff b a (2 ^ w) hP
  have h3 := mkQ_le s (m := n) hP
  have h4 : n ≤ 2 ^ e := by omega
  rw [h1]
  exact ⟨⟨Nat.le_trans (ln_le_of_le (Nat.le_trans h3.1 h4)) (ln_two_pow_le (by omega)), Nat.le_trans (ln_le_of_le h3.2) (ln_two_pow_le (by omega))⟩, Nat.le_trans h3.1 h4⟩
theorem ln_of_le2 {m e : Nat} (h : m ≤ 2 ^ e) (he : e ≤ 2000) : ln 4294967296 m ≤ 64 := Nat.le_trans (ln_le_of_le h) (ln_two_pow_le (by omega))
set_option maxRecDepth 20000 in
set_option maxHeartbeats 1000000 in
theorem below_ct (h : Heap) (tb : Tb h) (sa sb sc sd : Sl) (a b c d k e w p : Nat) (x y : Int) (hx : x = w) (hy : y = p) (na : Nz h sa a k) (nb : Nz h sb b k) (nc : Nz h sc c k) (nd : Nz h sd d k)
    (la : a ≤ 2 ^ e) (lb : b ≤ 2 ^ e) (lc : c ≤ 2 ^ e) (ld : d ≤ 2 ^ e) (he : e ≤ 1500) (hw : w ≤ 1500) (hp : p ≤ 256) :
    Fn0 T F.elem_below [sa.val, sb.val, sc.val, sd.val, .int .i64 x, .int .i64 y] h fun v h' => BrR h' v (gridQ (mkQ false b (2 ^ w) - mkQ false a (2 ^ w)) p false) (gridQ (mkQ false d (2 ^ w) - mkQ false c (2 ^ w)) p true) := by
  subst hx hy
  obtain ⟨f1, f2⟩ := diff_fits (w := w) la lb he hw
  obtain ⟨f3, f4⟩ := diff_fits (w := w) lc ld he hw
  have ka := fun h tb ns => rational_ct h tb sa a k w false (w : Int) rfl ns (ln_of_le2 la (by omega)) (by omega)
  have kb := fun h tb ns => rational_ct h tb sb b k w false (w : Int) rfl ns (ln_of_le2 lb (by omega)) (by omega)
  have kc := fun h tb ns => rational_ct h tb sc c k w false (w : Int) rfl ns (ln_of_le2 lc (by omega)) (by omega)
  have kd := fun h tb ns => rational_ct h tb sd d k w false (w : Int) rfl ns (ln_of_le2 ld (by omega)) (by omega)
  obtain ⟨A, hA⟩ : ∃ A, A = mkQ false a (2 ^ w) := ⟨_, rfl⟩
  obtain ⟨B, hB⟩ : ∃ A, A = mkQ false b (2 ^ w) := ⟨_, rfl⟩
  obtain ⟨C, hC⟩ : ∃ A, A = mkQ false c (2 ^ w) := ⟨_, rfl⟩
  obtain ⟨E, hE⟩ : ∃ A, A = mkQ false d (2 ^ w) := ⟨_, rfl⟩
  rw [← hA] at ka f1 f2 ⊢
  rw [← hB] at kb f1 f2 ⊢
  rw [← hC] at kc f3 f4 ⊢
  rw [← hE] at kd f3 f4 ⊢
  have s1 : opR (· - ·) (some B) (some A) = (B - A, 0) := if_pos f1
  have s2 : opR (· - ·) (some E) (some C) = (E - C, 0) := if_pos f3
  have k1 := fun h n1 a1 b1 n2 a2 b2 tb w1 w2 => SubN h n1 a1 b1 n2 a2 b2 (some B) (some A) tb w1 w2
  have k2 := fun h n1 a1 b1 n2 a2 b2 tb w1 w2 => SubN h n1 a1 b1 n2 a2 b2 (some E) (some C) tb w1 w2
  rw [s1] at k1
  rw [s2] at k2
  clear hA hB hC hE s1 s2
  refine fn0_of_codeI ok D.elem_below rfl ?_
  conv => whnf
  repeat ((first | refine opsI.step ?_ | refine codeI.step ?_); conv => whnf)
  repeat' first
   | (show CallN _ _ _ _ _ _; first
     | (refine CallN.fn rfl (kb _ (by assumption) (nb.mono (by (iterate 30 (try first | assumption | exact Heap.le_refl _)); first | done | assumption))) (fun v h' hl hr => ?_); obtain ⟨a1, b1, rfl, r1, t1⟩ := hr; have m1 := r1.isnum t1; conv => whnf)
     | (refine CallN.fn rfl (ka _ (by (iterate 30 (try first | assumption | refine Tb.mono ?_ (by assumption))); first | done | assumption) (na.mono (by assumption))) (fun v h' hl hr => ?_); obtain ⟨a2, b2, rfl, r2, t2⟩ := hr; have m2 := r2.isnum t2; conv => whnf)
     | (refine CallN.fn rfl (kd _ (by (iterate 30 (try first | assumption | refine Tb.mono ?_ (by assumption))); first | done | assumption) (nd.mono (by (iterate 30 (try first | assumption | refine Heap.le_trans ?_ (by assumption))); first | done | assumption))) (fun v h' hl hr => ?_); obtain ⟨a3, b3, rfl, r3, t3⟩ := hr; have m3 := r3.isnum t3; conv => whnf)
     | (refine CallN.fn rfl (kc _ (by (iterate 30 (try first | assumption | refine Tb.mono ?_ (by assumption))); first | done | assumption) (nc.mono (by (iterate 30 (try first | assumption | refine Heap.le_trans ?_ (by assumption))); first | done | assumption))) (fun v h' hl hr => ?_); obtain ⟨a4, b4, rfl, r4, t4⟩ := hr; have m4 := r4.isnum t4; conv => whnf)
     | (refine CallN.fn rfl (k1 _ _ _ _ _ _ _ (by (iterate 30 (try first | assumption | refine Tb.mono ?_ (by assumption))); first | done | assumption) (m1.mono (by assumption)) (m2.mono (by (iterate 30 (try first | assumption | exact Heap.le_refl _)); first | done | assumption))) (fun v h' hl hr => ?_); obtain ⟨a5, b5, rfl, r5, m5⟩ := hr; conv => whnf)
     | (refine CallN.fn rfl (k2 _ _ _ _ _ _ _ (by (iterate 30 (try first | assumption | refine Tb.mono ?_ (by assumption))); first | done | assumption) (m3.mono (by assumption)) (m4.mono (by (iterate 30 (try first | assumption | exact Heap.le_refl _)); first | done | assumption))) (fun v h' hl hr => ?_); obtain ⟨a6, b6, rfl, r6, m6⟩ := hr; conv => whnf)
     | (refine CallN.fn rfl (rounded_ct _ (by (iterate 30 (try first | assumption | refine Tb.mono ?_ (by assumption))); first | done | assumption) _ _ _ _ _ _ e p _ rfl (r5.mono (by (iterate 30 (try first | assumption | refine Heap.le_trans ?_ (by assumption))); first | done | assumption)) (r6.mono (by (iterate 30 (try first | assumption | exact Heap.le_refl _)); first | done | assumption)) f1 f3 f2 f4 he hp) (fun v h' hl hr => ?_); obtain ⟨a', b', c', d', rfl, hr1, hr2, hr3, hr4⟩ := hr; conv => whnf))
   | ((first | refine opsI.step ?_ | refine codeI.step ?_); conv => whnf)
   | (intro (_ : Nat); conv => whnf)
   | (show LdN _ _ _ _ _; first
     | (refine LdN.own 0 rfl rfl ?_; conv => whnf)
     | (refine LdN.own 1 rfl rfl ?_; conv => whnf)
     | (refine LdN.own 2 rfl rfl ?_; conv => whnf))
   | (show Sto _ _ _ _; first
     | (refine Sto.lit 0 rfl rfl rfl ?_; conv => whnf)
     | (refine Sto.lit 2 rfl rfl rfl ?_; conv => whnf))
  all_goals exact RetN.all ⟨_, _, _, _, rfl, (by assumption), (by assumption), hr3, hr4⟩
end Go.Proofs.YtdemgbmndijkkaaGreatDoor