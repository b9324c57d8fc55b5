/- Contracts of the reference's functions on rational numbers, fourth part: comparison, whole parts, the grid, powers, bits. -/
import Derived.Test.YteblflmnhegmjaaDoorQ3
import Derived.Test.YteblflmnhegmjaaDoorN2
set_option linter.unusedVariables false
set_option linter.unusedSimpArgs false
namespace Go.Proofs.YteblflmnhegmjaaDoor
open Go Go.Vc Go.Dig

theorem WrapN.i64v {n : Int} {k : Int → Prop} (x : Int) (h : n = x) (h1 : -9223372036854775808 ≤ x) (h2 : x ≤ 9223372036854775807) (hk : k x) : WrapN .i64 n k := by
  subst h; exact WrapN.i64 h1 h2 hk
theorem lb_two_pow (p : Nat) : ln 65536 (2 ^ p) ≤ p + 1 := by
  rw [ln_le_iff (by decide)]
  refine Nat.lt_of_lt_of_le (Nat.pow_lt_pow_right (by decide) (Nat.lt_succ_self p)) (Nat.pow_le_pow_left (by decide) _)
theorem NatShl_i (h : Heap) (a : Sl) (m : Nat) (n : Int) (P : Nat) (hn : n = P) (ha : IsRef h a m) (la : ln 65536 m ≤ 17179869184) (hp : P ≤ 549755813888) :
    Fn0 T F.ref01_NatShl [a.val, .int .i64 n] h fun v h' => ∃ s : Sl, v = s.val ∧ IsRef h' s (m * 2 ^ P) := by
  subst hn; exact NatShl_ct h a m P ha la hp
theorem NatPow_i (h : Heap) (a : Sl) (A : Nat) (n : Int) (P : Nat) (hn : n = P) (ha : IsRef h a A) (hb : P * ln 65536 A ≤ 8589934590) (la : ln 65536 A ≤ 8589934592) (hp : P ≤ 65536) :
    Fn0 T F.ref01_NatPow [a.val, .int .i64 n] h fun v h' => ∃ s : Sl, v = s.val ∧ IsRef h' s (A ^ P) := by
  subst hn; exact NatPow_ct h a A P ha hb la hp

set_option maxRecDepth 20000 in
theorem RCmp_ct (h : Heap) (a b c d : Sl) (q r : Rat) (hq : IsQ h a b q) (hr : IsQ h c d r) (hs : Sr 65536 q) (hs' : Sr 65536 r) :
    Fn0 T F.ref01_Cmp [.agg #[.bool (sg q), a.val, b.val], .agg #[.bool (sg r), c.val, d.val]] h fun v _ => v = .int .i64 (cmpQ q r) := by
  have y1 : Sr 1073741824 q := hs.mono (by decide)
  have y2 : Sr 1073741824 r := hs'.mono (by decide)
  have y3 : Sr 1099511627776 (q - r) := by rw [Rat.sub_eq_add_neg]; exact (sr_add hs (Sr.neg hs')).mono (by decide)
  have e := cmpQ_sub q r
  refine fn0_of_codeI ok D.ref01_Cmp rfl ?_
  conv => whnf
  repeat ((first | refine opsI.step ?_ | refine codeI.step ?_); conv => whnf)
  repeat' first
   | (show CallN _ _ _ _ _ _; first
     | (refine CallN.fn rfl (Diff_ct _ _ _ _ _ _ _ (by assumption) (by assumption) y1 y2) (fun v h' hl hr => ?_); obtain ⟨e1, e2, rfl, hq'⟩ := hr; conv => whnf)
     | (refine CallN.quiet rfl (Sgn_q _ _ _ _ (by assumption) y3) ?_; conv => whnf))
   | ((first | refine opsI.step ?_ | refine codeI.step ?_); conv => whnf)
   | (intro (_ : Nat); conv => whnf)
   | (show LdN _ _ _ _ _; first
     | (refine LdN.own 0 rfl rfl ?_; conv => whnf)
     | (refine LdN.own 1 rfl rfl ?_; conv => whnf))
  exact RetN.all (by rw [e])

set_option maxRecDepth 20000 in
set_option maxHeartbeats 1000000 in
theorem Scaled_ct (h : Heap) (a b : Sl) (q : Rat) (n : Int) (hq : IsQ h a b q) (hs : Sr 1073741824 q) (h1 : -65536 ≤ n) (h2 : n ≤ 65536) :
    Fn0 T F.ref01_Scaled [.agg #[.bool (sg q), a.val, b.val], .int .i64 n] h fun v h' => ∃ s t : Sl, v = .agg #[.bool (sg (scaleQ q n)), s.val, t.val] ∧ IsQ h' s t (scaleQ q n) := by
  have i1 := hq.num
  have i2 := hq.den
  have l1 := hs.num
  have l2 := hs.den
  have d0 := q.den_nz
  obtain ⟨s, hsg⟩ : ∃ s, s = sg q := ⟨_, rfl⟩
  rw [← hsg]
  by_cases hn : n < 0
  · obtain ⟨P, hP⟩ : ∃ P : Nat, P = (-n).toNat := ⟨_, rfl⟩
    have hp : n = -(P : Int) := by omega
    have hp2 : P ≤ 65536 := by omega
    have e := scaleQ_dn q n P hp hn
    have p1 := ln_mul two_le_b q.den (2 ^ P)
    have p2 := lb_two_pow P
    obtain ⟨X, hD⟩ : ∃ X, X = q.den * 2 ^ P := ⟨_, rfl⟩
    rw [← hD] at e p1
    have p3 : ln 65536 X ≤ 1073741824 + 65537 := by omega
    clear p1 p2
    rw [e, ← hsg]
    clear hP e
    refine fn0_of_codeI ok D.ref01_Scaled rfl ?_
    conv => whnf
    repeat ((first | refine opsI.step ?_ | refine codeI.step ?_); conv => whnf)
    repeat' first
     | (show CallN _ _ _ _ _ _; first
       | (refine CallN.quiet rfl (den_q _ _ _ _ _ (by assumption) (by first | assumption | omega) (by omega)) ?_; conv => whnf)
       | (refine CallN.fn rfl (NatShl_i _ _ q.den _ P (by omega) (by assumption) (by omega) (by omega)) (fun v h' hl hr => ?_); rw [← hD] at hr; obtain ⟨s', rfl, hs'⟩ := hr; conv => whnf)
       | (refine CallN.fn rfl (Make_ct _ _ _ _ (nu q) X (by (iterate 30 (try first | assumption | refine IsRef.mono ?_ (by assumption))); first | done | assumption) (by assumption) (by omega) (by omega)) (fun v h' hl hr => ?_); obtain ⟨a', b', rfl, hq'⟩ := hr; conv => whnf))
     | ((first | refine opsI.step ?_ | refine codeI.step ?_); conv => whnf)
     | (refine ⟨fun _ => HasLe.of_le (Heap.le_refl _), ?_⟩; conv => whnf)
     | (refine ⟨fun _ => HasLe.of_le (by assumption), ?_⟩; conv => whnf)
     | (refine ⟨fun hst => (by cases (show true = false from hst)), ?_⟩; conv => whnf)
     | (intro (_ : Nat); conv => whnf)
     | (show WrapN _ _ _; first
       | (refine WrapN.i64 (by omega) (by omega) ?_; conv => whnf))
     | (show cnd _ _ _; first
       | (refine cnd_lt (fun _ => ?_) (fun _ => ?_) <;> first | (exfalso; omega) | (conv => whnf)))
     | (show LdN _ _ _ _ _; first
       | (refine LdN.own 0 rfl rfl ?_; conv => whnf)
       | (refine LdN.own 1 rfl rfl ?_; conv => whnf))
     | (show Ld _ _ _ _; first
       | (refine Ld.own 1 rfl rfl ?_; conv => whnf))
     | (show Sto _ _ _ _; first
       | (refine Sto.lit 0 rfl rfl rfl ?_; conv => whnf))
     | (show DrawN _ _ _ _ _ _; first
       | (refine DrawN.run (by decide +kernel) ?_; conv => whnf))
    all_goals exact RetN.all ⟨_, _, rfl, (by assumption)⟩
  · obtain ⟨P, hP⟩ : ∃ P : Nat, P = n.toNat := ⟨_, rfl⟩
    have hp : n = P := by omega
    have hp2 : P ≤ 65536 := by omega
    have e := scaleQ_up q n P hp
    have p1 := ln_mul two_le_b (nu q) (2 ^ P)
    have p2 := lb_two_pow P
    obtain ⟨X, hD⟩ : ∃ X, X = nu q * 2 ^ P := ⟨_, rfl⟩
    rw [← hD] at e p1
    have p3 : ln 65536 X ≤ 1073741824 + 65537 := by omega
    clear p1 p2
    rw [e, ← hsg]
    clear hP e
    refine fn0_of_codeI ok D.ref01_Scaled rfl ?_
    conv => whnf
    repeat ((first | refine opsI.step ?_ | refine codeI.step ?_); conv => whnf)
    repeat' first
     | (show CallN _ _ _ _ _ _; first
       | (refine CallN.quiet rfl (den_q _ _ _ _ _ (by (iterate 30 (try first | assumption | refine Ws.mono ?_ (by assumption))); first | done | assumption) (by first | assumption | omega) (by omega)) ?_; conv => whnf)
       | (refine CallN.fn rfl (NatShl_i _ _ (nu q) _ P (by omega) (by assumption) (by omega) (by omega)) (fun v h' hl hr => ?_); rw [← hD] at hr; obtain ⟨s', rfl, hs'⟩ := hr; conv => whnf)
       | (refine CallN.fn rfl (Make_ct _ _ _ _ X q.den (by assumption) (by (iterate 30 (try first | assumption | refine IsRef.mono ?_ (by assumption))); first | done | assumption) (by omega) (by omega)) (fun v h' hl hr => ?_); obtain ⟨a', b', rfl, hq'⟩ := hr; conv => whnf))
     | ((first | refine opsI.step ?_ | refine codeI.step ?_); conv => whnf)
     | (refine ⟨fun _ => HasLe.of_le (Heap.le_refl _), ?_⟩; conv => whnf)
     | (refine ⟨fun _ => HasLe.of_le (by assumption), ?_⟩; conv => whnf)
     | (refine ⟨fun hst => (by cases (show true = false from hst)), ?_⟩; conv => whnf)
     | (intro (_ : Nat); conv => whnf)
     | (show cnd _ _ _; first
       | (refine cnd_lt (fun _ => ?_) (fun _ => ?_) <;> first | (exfalso; omega) | (conv => whnf)))
     | (show LdN _ _ _ _ _; first
       | (refine LdN.own 0 rfl rfl ?_; conv => whnf)
       | (refine LdN.own 1 rfl rfl ?_; conv => whnf))
     | (show Ld _ _ _ _; first
       | (refine Ld.own 1 rfl rfl ?_; conv => whnf))
     | (show Sto _ _ _ _; first
       | (refine Sto.lit 0 rfl rfl rfl ?_; conv => whnf))
     | (show DrawN _ _ _ _ _ _; first
       | (refine DrawN.run (by decide +kernel) ?_; conv => whnf))
    all_goals exact RetN.all ⟨_, _, rfl, (by assumption)⟩
theorem Sr.scale {k : Nat} {q : Rat} (s : Sr k q) (n : Int) : Sr (k + n.natAbs + 1) (scaleQ q n) := by
  have a1 := s.num
  have a2 := s.den
  have d0 := q.den_nz
  by_cases hn : n < 0
  · obtain ⟨P, hP⟩ : ∃ P : Nat, P = (-n).toNat := ⟨_, rfl⟩
    rw [scaleQ_dn q n P (by omega) hn]
    have p1 := ln_mul two_le_b q.den (2 ^ P)
    have p2 := lb_two_pow P
    have h := mkQ_le (sg q) (m := nu q) (n := q.den * 2 ^ P) (Nat.mul_ne_zero d0 (two_pow_ne P))
    exact ⟨Nat.le_trans (ln_mono two_le_b h.1) (by omega), Nat.le_trans (ln_mono two_le_b h.2) (by omega)⟩
  · obtain ⟨P, hP⟩ : ∃ P : Nat, P = n.toNat := ⟨_, rfl⟩
    rw [scaleQ_up q n P (by omega)]
    have p1 := ln_mul two_le_b (nu q) (2 ^ P)
    have p2 := lb_two_pow P
    have h := mkQ_le (sg q) (m := nu q * 2 ^ P) (n := q.den) d0
    exact ⟨Nat.le_trans (ln_mono two_le_b h.1) (by omega), Nat.le_trans (ln_mono two_le_b h.2) (by omega)⟩

theorem sr_bottom {k : Nat} {q : Rat} (s : Sr k q) (hk : 1 ≤ k) : Sr (k + 1) (gridQ q 0 false) := by
  have a1 := s.num
  have p1 := ln_mono two_le_b (Nat.div_le_self (nu q) q.den)
  have p3 := ln_add two_le_b (nu q / q.den) 1
  have p4 := ln_one 65536 two_le_b
  obtain ⟨c, hc, hc1⟩ : ∃ c, c = (if sg q = true ∧ nu q % q.den ≠ 0 then 1 else 0) ∧ c ≤ 1 := ⟨_, rfl, by split <;> omega⟩
  have h := mkQ_le (sg q) (m := nu q / q.den + c) (n := 1) (by decide)
  rw [bottom_eq, ← hc]
  have h1 : nu (mkQ (sg q) (nu q / q.den + c) 1) ≤ nu q / q.den + 1 := by omega
  exact ⟨Nat.le_trans (ln_mono two_le_b h1) (by omega), Nat.le_trans (ln_mono two_le_b h.2) (by omega)⟩
theorem sr_top {k : Nat} {q : Rat} (s : Sr k q) (hk : 1 ≤ k) : Sr (k + 1) (gridQ q 0 true) := by
  rw [grid_up]; exact Sr.neg (sr_bottom (Sr.neg s) hk)

end Go.Proofs.YteblflmnhegmjaaDoor
