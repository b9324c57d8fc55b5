/- Contracts of the reference's layer: products, quotients, whole parts, the grid, powers; ints. -/
import Derived.Test.YteblflmnhegmjaaDoorQ4
set_option linter.unusedVariables false
set_option linter.unusedSimpArgs false
namespace Go.Proofs.YteblflmnhegmjaaDoor
open Go Go.Vc Go.Dig

theorem signQ_zero {q : Rat} : signQ q = 0 ↔ nu q = 0 := by
  unfold signQ
  split
  · simp_all
  · split <;> simp_all
theorem sr_mul {k l : Nat} {q r : Rat} (a : Sr k q) (b : Sr l r) : Sr (k + l) (q * r) := by
  have h := mul_le q r
  have p1 := ln_mul two_le_b (nu q) (nu r)
  have p3 := ln_mul two_le_b q.den r.den
  have a1 := a.num
  have a2 := a.den
  have b1 := b.num
  have b2 := b.den
  exact ⟨Nat.le_trans (ln_mono two_le_b h.1) (by omega), Nat.le_trans (ln_mono two_le_b h.2) (by omega)⟩
theorem sr_inv {k : Nat} {q : Rat} (s : Sr k q) (h : nu q ≠ 0) : Sr k q⁻¹ := ⟨by rw [nu_inv q h]; exact s.den, by rw [den_inv q h]; exact s.num⟩
theorem sr_pow {q : Rat} (s : Sr 128 q) {n : Nat} (hn : n ≤ 32) : Sr 8192 (q ^ n) := by
  have h1 := ln_pow two_le_b (nu q) n
  have h2 := ln_pow two_le_b q.den n
  have b1 : n * ln 65536 (nu q) ≤ 32 * 128 := Nat.mul_le_mul hn s.num
  have b2 : n * ln 65536 q.den ≤ 32 * 128 := Nat.mul_le_mul hn s.den
  have p := ln_one 65536 two_le_b
  refine ⟨?_, ?_⟩
  · rw [nu_pow]; omega
  · rw [Rat.den_pow]; omega

theorem Sr.grid {q : Rat} (s : Sr 128 q) {p : Nat} (hp : p ≤ 256) (up : Bool) : Sr 4294967296 (gridQ q p up) := by
  rw [grid_scaled]
  have y2 := s.scale (p : Int)
  have y3 : Sr (128 + (p : Int).natAbs + 1 + 1) (gridQ (scaleQ q p) 0 up) := by
    cases up
    · exact sr_bottom y2 (by omega)
    · exact sr_top y2 (by omega)
  exact (y3.scale (-(p : Int))).mono (by omega)

set_option maxRecDepth 20000 in
set_option maxHeartbeats 1000000 in
theorem Power_nn (h : Heap) (a b : Sl) (q : Rat) (P : Nat) (n : Int) (hn : n = P) (hP : P ≤ 32) (hq : IsQ h a b q) (hs : Sr 128 q) :
    Fn0 T F.ref01_Power [.agg #[.bool (sg q), a.val, b.val], .int .i64 n] h fun v h' => ∃ s t : Sl, v = .agg #[.bool (sg (q ^ P)), s.val, t.val] ∧ IsQ h' s t (q ^ P) := by
  have i1 := hq.num
  have i2 := hq.den
  have l1 := hs.num
  have l2 := hs.den
  have d0 := q.den_nz
  have e1 := sg_pow q P
  have e2 := nu_pow q P
  have e3 := Rat.den_pow q P
  have b1 : P * ln 65536 (nu q) ≤ 8589934590 := Nat.le_trans (Nat.mul_le_mul hP l1) (by decide)
  have b2 : P * ln 65536 q.den ≤ 8589934590 := Nat.le_trans (Nat.mul_le_mul hP l2) (by decide)
  refine fn0_of_codeI ok D.ref01_Power rfl ?_
  conv => whnf
  repeat ((first | refine opsI.step ?_ | refine codeI.step ?_); conv => whnf)
  repeat' first
   | (show RemN _ _ _; first
     | (refine RemN.nn (by omega) (by omega) ?_; conv => whnf))
   | (show CallN _ _ _ _ _ _; first
     | (refine CallN.quiet rfl (den_q _ _ _ _ _ (by (iterate 30 (try first | assumption | refine Ws.mono ?_ (by assumption))); first | done | assumption) (by first | assumption | omega) (by omega)) ?_; conv => whnf)
     | (refine CallN.fn rfl (NatPow_i _ _ (nu q) n P hn (by (iterate 30 (try first | assumption | refine IsRef.mono ?_ (by assumption))); first | done | assumption) b1 (by omega) (by omega)) (fun v h' hl hr => ?_); rw [← e2] at hr; obtain ⟨s', rfl, hs'⟩ := hr; conv => whnf)
     | (refine CallN.fn rfl (NatPow_i _ _ q.den n P hn (by (iterate 30 (try first | assumption | refine IsRef.mono ?_ (by assumption))); first | done | assumption) b2 (by omega) (by omega)) (fun v h' hl hr => ?_); rw [← e3] at hr; obtain ⟨t', rfl, ht'⟩ := hr; conv => whnf))
   | ((first | refine opsI.step ?_ | refine codeI.step ?_); conv => whnf)
   | (refine ⟨fun _ => HasLe.of_le (Heap.le_refl _), ?_⟩; conv => whnf)
   | (refine ⟨fun _ => HasLe.of_le (by assumption), ?_⟩; conv => whnf)
   | (refine ⟨fun hst => (by cases (show true = false from hst)), ?_⟩; conv => whnf)
   | (intro (_ : Nat); conv => whnf)
   | (show cnd _ _ _; first
     | (refine cnd_lt (fun _ => ?_) (fun _ => ?_) <;> first | (exfalso; omega) | (conv => whnf))
     | (refine cnd_bool (fun _ => ?_) (fun _ => ?_) <;> (conv => whnf)))
   | (show LdN _ _ _ _ _; first
     | (refine LdN.own 0 rfl rfl ?_; conv => whnf)
     | (refine LdN.own 1 rfl rfl ?_; conv => whnf))
   | (show Ld _ _ _ _; first
     | (refine Ld.own 1 rfl rfl ?_; conv => whnf))
   | (show Sto _ _ _ _; first
     | (refine Sto.lit 0 rfl rfl rfl ?_; conv => whnf))
   | (show DrawN _ _ _ _ _ _; first
     | (refine DrawN.run (by decide +kernel) ?_; conv => whnf))
  · have he : eq (n % 2) 1 = decide (P % 2 = 1) := by unfold eq; rw [Bool.eq_iff_iff, decide_eq_true_iff, decide_eq_true_iff]; omega
    exact RetN.all ⟨s', t', by rw [e1, he]; simp_all, ⟨(by (iterate 30 (try first | assumption | refine IsRef.mono ?_ (by assumption))); first | done | assumption), (by assumption)⟩⟩
  · exact RetN.all ⟨s', t', by rw [e1]; simp_all, ⟨(by (iterate 30 (try first | assumption | refine IsRef.mono ?_ (by assumption))); first | done | assumption), (by assumption)⟩⟩
theorem one_div_q (q : Rat) : ((1 : Int) : Rat) / q = q⁻¹ := by rw [Rat.div_def, show ((1 : Int) : Rat) = 1 from rfl, Rat.one_mul]
set_option maxRecDepth 20000 in
set_option maxHeartbeats 1000000 in
theorem Power_ct (h : Heap) (a b : Sl) (q : Rat) (n : Int) (h1 : -32 ≤ n) (h2 : n ≤ 32) (h0 : n < 0 → nu q ≠ 0) (hq : IsQ h a b q) (hs : Sr 128 q) :
    Fn0 T F.ref01_Power [.agg #[.bool (sg q), a.val, b.val], .int .i64 n] h fun v h' => ∃ s t : Sl, v = .agg #[.bool (sg (powQ q n)), s.val, t.val] ∧ IsQ h' s t (powQ q n) := by
  by_cases hn : n < 0
  · obtain ⟨P, hP⟩ : ∃ P : Nat, P = (-n).toNat := ⟨_, rfl⟩
    have e : powQ q n = q⁻¹ ^ P := by unfold powQ; rw [if_pos hn, hP]
    have hz := h0 hn
    have y1 : Sr 1073741824 ((1 : Int) : Rat) := by
      refine ⟨?_, ?_⟩
      · rw [nu_int]; exact Nat.le_trans ((ln_le_iff two_le_b (k := 1)).2 (by decide)) (by decide)
      · rw [den_int, ln_one _ two_le_b]; decide
    have y2 : Sr 1073741824 q := hs.mono (by decide)
    have y3 := sr_inv hs hz
    have d := one_div_q q
    rw [e]
    obtain ⟨i, hi⟩ : ∃ i, i = q⁻¹ := ⟨_, rfl⟩
    rw [← hi] at d y3
    rw [← hi]
    refine fn0_of_codeI ok D.ref01_Power rfl ?_
    conv => whnf
    repeat ((first | refine opsI.step ?_ | refine codeI.step ?_); conv => whnf)
    repeat' first
     | (show CallN _ _ _ _ _ _; first
       | (refine CallN.fn rfl (Int_ct _ 1 (by decide) (by decide)) (fun v h' hl hr => ?_); obtain ⟨e1, e2, rfl, hq'⟩ := hr; conv => whnf)
       | (refine CallN.fn rfl (Quo_ct _ _ _ _ _ ((1 : Int) : Rat) q (by assumption) (by (iterate 30 (try first | assumption | refine IsQ.mono ?_ (by assumption))); first | done | assumption) y1 y2) (fun v h' hl hr => ?_); rw [d] at hr; obtain ⟨e1, e2, rfl, hq'⟩ := hr; conv => whnf)
       | (refine CallN.fn rfl (Power_nn _ _ _ i P _ (by omega) (by omega) (by assumption) y3) (fun v h' hl hr => ?_); obtain ⟨e1, e2, rfl, hq'⟩ := hr; conv => whnf))
     | ((first | refine opsI.step ?_ | refine codeI.step ?_); conv => whnf)
     | (refine ⟨fun _ => HasLe.of_le (by assumption), ?_⟩; conv => whnf)
     | (refine ⟨fun hst => (by cases (show true = false from hst)), ?_⟩; conv => whnf)
     | (intro (_ : Nat); conv => whnf)
     | (show WrapN _ _ _; first
       | (refine WrapN.i64 (by omega) (by omega) ?_; conv => whnf))
     | (show cnd _ _ _; first
       | (refine cnd_lt (fun _ => ?_) (fun _ => ?_) <;> first | (exfalso; omega) | (conv => whnf)))
     | (show LdN _ _ _ _ _; first
       | (refine LdN.own 0 rfl rfl ?_; conv => whnf)
       | (refine LdN.own 1 rfl rfl ?_; conv => whnf))
     | (show Sto _ _ _ _; first
       | (refine Sto.lit 0 rfl rfl rfl ?_; conv => whnf))
     | (show DrawN _ _ _ _ _ _; first
       | (refine DrawN.run (by decide +kernel) ?_; conv => whnf))
    exact RetN.all ⟨_, _, rfl, (by assumption)⟩
  · have e : powQ q n = q ^ n.toNat := by unfold powQ; rw [if_neg hn]
    rw [e]
    exact Power_nn h a b q n.toNat n (by omega) (by omega) hq hs
theorem sr_powQ {q : Rat} (s : Sr 128 q) {n : Int} (h1 : -32 ≤ n) (h2 : n ≤ 32) (h0 : n < 0 → nu q ≠ 0) : Sr 4294967296 (powQ q n) := by
  unfold powQ
  split
  · rename_i hn; exact (sr_pow (sr_inv s (h0 hn)) (by omega)).mono (by decide)
  · exact (sr_pow s (by omega)).mono (by decide)

theorem NatOf_i (h : Heap) (n : Int) (N : Nat) (hn : n = N) (hN : N < 18446744073709551616) : Fn0 T F.ref01_NatOf [.int .u64 n] h fun v h' => ∃ s' : Sl, v = s'.val ∧ IsRef h' s' N := by
  subst hn; exact NatOf_ct h N hN
set_option maxRecDepth 20000 in
theorem Int_neg (h : Heap) (n : Int) (h1 : -9223372036854775808 ≤ n) (h2 : n < 0) :
    Fn0 T F.ref01_Int [.int .i64 n] h fun v h' => ∃ s t : Sl, v = .agg #[.bool (sg (n : Rat)), s.val, t.val] ∧ IsQ h' s t (n : Rat) := by
  obtain ⟨m, hm⟩ : ∃ m, m = n.natAbs := ⟨_, rfl⟩
  have e : (n : Rat) = mkQ true m 1 := by
    have := mkQ_self (n : Rat)
    rw [sg_int, nu_int, den_int, decide_eq_true h2, ← hm] at this
    exact this.symm
  have hnm : n = -(m : Int) := by omega
  have p1 : ln 65536 m ≤ 4 := (ln_le_iff two_le_b).2 (by omega)
  have p2 := ln_one 65536 two_le_b
  rw [e]
  clear e
  refine fn0_of_codeI ok D.ref01_Int rfl ?_
  conv => whnf
  repeat ((first | refine opsI.step ?_ | refine codeI.step ?_); conv => whnf)
  repeat' first
   | (show WrapN _ _ _; first
     | (refine WrapN.u64v (m - 1) (by omega) ?_; conv => whnf)
     | (refine WrapN.i64 (by omega) (by omega) ?_; conv => whnf)
     | (refine WrapN.u64 (by omega) (by omega) ?_; conv => whnf))
   | ((first | refine opsI.step ?_ | refine codeI.step ?_); conv => whnf)
   | (intro (_ : Nat); conv => whnf)
   | (show cnd _ _ _; first
     | (refine cnd_lt (fun _ => ?_) (fun _ => ?_) <;> first | (exfalso; omega) | (conv => whnf)))
  refine CallN.fn rfl (NatOf_i _ _ m (by omega) (by omega)) (fun v h' hl hr => ?_)
  obtain ⟨s', rfl, hs'⟩ := hr
  conv => whnf
  repeat ((first | refine opsI.step ?_ | refine codeI.step ?_); conv => whnf)
  refine CallN.fn rfl (NatOf_ct _ 1 (by omega)) (fun v h' hl hr => ?_)
  obtain ⟨t', rfl, ht'⟩ := hr
  conv => whnf
  repeat ((first | refine opsI.step ?_ | refine codeI.step ?_); conv => whnf)
  repeat' first
   | (show CallN _ _ _ _ _ _; first
     | (refine CallN.fn rfl (Make_ct _ _ _ _ m 1 (by (iterate 30 (try first | assumption | refine IsRef.mono ?_ (by assumption))); first | done | assumption) (by assumption) (by omega) (by omega)) (fun v h' hl hr => ?_); obtain ⟨a', b', rfl, hq'⟩ := hr; conv => whnf))
   | ((first | refine opsI.step ?_ | refine codeI.step ?_); conv => whnf)
   | (show LdN _ _ _ _ _; first
     | (refine LdN.own 0 rfl rfl ?_; conv => whnf))
   | (show Sto _ _ _ _; first
     | (refine Sto.lit 0 rfl rfl rfl ?_; conv => whnf))
  exact RetN.all ⟨_, _, rfl, (by assumption)⟩
theorem IntQ_ct (h : Heap) (n : Int) (h1 : -9223372036854775808 ≤ n) (h2 : n ≤ 9223372036854775807) :
    Fn0 T F.ref01_Int [.int .i64 n] h fun v h' => ∃ s t : Sl, v = .agg #[.bool (sg (n : Rat)), s.val, t.val] ∧ IsQ h' s t (n : Rat) := by
  by_cases hn : n < 0
  · exact Int_neg h n h1 hn
  · exact Int_ct h n (by omega) h2
end Go.Proofs.YteblflmnhegmjaaDoor
