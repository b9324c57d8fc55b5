/- Contracts of package word's functions on rational numbers, second part: the field operations, signs, comparison, the grid. -/
import Derived.Test.YteblflmnhegmjaaDoorW7
set_option linter.unusedVariables false
set_option linter.unusedSimpArgs false
namespace Go.Proofs.YteblflmnhegmjaaDoor
open Go Go.Vc Go.Dig

/-- whether a number is not large -/
def fits (q : Rat) : Prop := ln 4294967296 (nu q) ≤ 64 ∧ ln 4294967296 q.den ≤ 64
instance (q : Rat) : Decidable (fits q) := by unfold fits; exact inferInstance

theorem Fits_ct (h : Heap) (a b : Sl) (q : Rat) (hq : IsFr h a b q) (hs : Sz 1099511627776 q) : Fn0 T F.word_Frac_Fits [.agg #[.bool (sg q), a.val, b.val]] h fun v h' => h' = h ∧ v = .bool (dec (fits q)) := by
  have h1 := hq.num.len
  have h2 := hq.den.len
  have h3 := hs.num
  have h4 := hs.den
  refine fn0_of_codeI ok D.word_Frac_Fits rfl ?_
  conv => whnf
  repeat ((first | refine opsI.step ?_ | refine codeI.step ?_); conv => whnf)
  repeat' first
   | ((first | refine opsI.step ?_ | refine codeI.step ?_); conv => whnf)
   | (intro (_ : Nat); conv => whnf)
   | (show cnd _ _ _; first
     | (refine cnd_le (fun _ => ?_) (fun _ => ?_) <;> first | (exfalso; omega) | (conv => whnf)))
   | (show Ld _ _ _ _; first
     | (refine Ld.own 0 rfl rfl ?_; conv => whnf))
  · refine RetN.all ⟨rfl, ?_⟩
    by_cases hh : ln 4294967296 q.den ≤ 64
    · rw [dec_true ⟨by omega, hh⟩, le_true' (by omega)]
    · rw [dec_false (fun x => hh x.2), le_false' (by omega)]
  · exact RetN.all ⟨rfl, by rw [dec_false (fun x => by have := x.1; omega)]⟩

theorem Opposite_ct (h : Heap) (a b : Sl) (q : Rat) (hq : IsFr h a b q) (hs : Sz 1099511627776 q) : Fn0 T F.word_Frac_Opposite [.agg #[.bool (sg q), a.val, b.val]] h fun v h' => h' = h ∧ v = .agg #[.bool (sg (-q)), a.val, b.val] := by
  have h1 := hq.num
  have h3 := hs.num
  have e := sg_neg q
  refine fn0_of_codeI ok D.word_Frac_Opposite rfl ?_
  conv => whnf
  repeat ((first | refine opsI.step ?_ | refine codeI.step ?_); conv => whnf)
  repeat' first
   | (show CallN _ _ _ _ _ _; first
     | (refine CallN.quiet rfl (Zero_ct _ _ _ (by assumption) (by omega)) ?_; conv => whnf))
   | ((first | refine opsI.step ?_ | refine codeI.step ?_); conv => whnf)
   | (intro (_ : Nat); conv => whnf)
   | (show cnd _ _ _; first
     | (refine cnd_not ?_)
     | (refine cnd_bool (fun _ => ?_) (fun _ => ?_) <;> (conv => whnf)))
   | (show LdN _ _ _ _ _; first
     | (refine LdN.own 0 rfl rfl ?_; conv => whnf)
     | (refine LdN.own 1 rfl rfl ?_; conv => whnf))
   | (show Ld _ _ _ _; first
     | (refine Ld.own 1 rfl rfl ?_; conv => whnf))
   | (show Sto _ _ _ _; first
     | (refine Sto.lit 0 rfl rfl rfl ?_; conv => whnf)
     | (refine Sto.lit 1 rfl rfl rfl ?_; conv => whnf))
  · refine RetN.all ⟨rfl, ?_⟩
    rw [e]; simp_all [dec_eq]
  · refine RetN.all ⟨rfl, ?_⟩
    rw [e]
    by_cases hz : nu q = 0 <;> simp_all [dec_eq]
theorem IsFr.neg {h : Heap} {a b : Sl} {q : Rat} (w : IsFr h a b q) : IsFr h a b (-q) := ⟨by rw [nu_neg]; exact w.num, by rw [Rat.neg_den]; exact w.den⟩

theorem Inverse_ct (h : Heap) (a b : Sl) (q : Rat) (hq : IsFr h a b q) (h0 : nu q ≠ 0) : Fn0 T F.word_Frac_Inverse [.agg #[.bool (sg q), a.val, b.val]] h fun v h' => h' = h ∧ v = .agg #[.bool (sg q⁻¹), b.val, a.val] := by
  have e := sg_inv q
  refine fn0_of_codeI ok D.word_Frac_Inverse rfl ?_
  conv => whnf
  repeat ((first | refine opsI.step ?_ | refine codeI.step ?_); conv => whnf)
  repeat' first
   | ((first | refine opsI.step ?_ | refine codeI.step ?_); conv => whnf)
   | (intro (_ : Nat); conv => whnf)
   | (show LdN _ _ _ _ _; first
     | (refine LdN.own 0 rfl rfl ?_; conv => whnf))
   | (show Ld _ _ _ _; first
     | (refine Ld.own 1 rfl rfl ?_; conv => whnf))
   | (show Sto _ _ _ _; first
     | (refine Sto.lit 0 rfl rfl rfl ?_; conv => whnf))
  exact RetN.all ⟨rfl, by rw [e] <;> rfl⟩
theorem IsFr.inv {h : Heap} {a b : Sl} {q : Rat} (w : IsFr h a b q) (h0 : nu q ≠ 0) : IsFr h b a q⁻¹ := ⟨by rw [nu_inv q h0]; exact w.den, by rw [den_inv q h0]; exact w.num⟩

theorem Sign_ct (h : Heap) (a b : Sl) (q : Rat) (hq : IsFr h a b q) (hs : Sz 1099511627776 q) : Fn0 T F.word_Frac_Sign [.agg #[.bool (sg q), a.val, b.val]] h fun v h' => h' = h ∧ v = .int .i64 (signQ q) := by
  have h1 := hq.num
  have h3 := hs.num
  refine fn0_of_codeI ok D.word_Frac_Sign rfl ?_
  conv => whnf
  repeat ((first | refine opsI.step ?_ | refine codeI.step ?_); conv => whnf)
  repeat' first
   | (show CallN _ _ _ _ _ _; first
     | (refine CallN.quiet rfl (Zero_ct _ _ _ (by assumption) (by omega)) ?_; conv => whnf))
   | ((first | refine opsI.step ?_ | refine codeI.step ?_); conv => whnf)
   | (intro (_ : Nat); conv => whnf)
   | (show cnd _ _ _; first
     | (refine cnd_dec (fun _ => ?_) (fun _ => ?_) <;> first | (exfalso; omega) | (conv => whnf))
     | (refine cnd_bool (fun _ => ?_) (fun _ => ?_) <;> (conv => whnf)))
   | (show Ld _ _ _ _; first
     | (refine Ld.own 0 rfl rfl ?_; conv => whnf))
  all_goals refine RetN.all ⟨rfl, vi ?_⟩
  · unfold signQ; rw [if_pos (by assumption)]
  · unfold signQ; rw [if_neg (by assumption), if_pos (by assumption)]
  · unfold signQ; rw [if_neg (by assumption), if_neg (by simp_all)]

theorem ne_beq (a b : Bool) : (a != b) = !beq a b := by unfold beq; rfl
set_option maxRecDepth 20000 in
theorem FMul_ct (h : Heap) (tb : Tb h) (a b c d : Sl) (q r : Rat) (hq : IsFr h a b q) (hr : IsFr h c d r) (hs : Sz 1073741824 q) (hs' : Sz 1073741824 r) :
    Fn0 T F.word_Frac_Mul [.agg #[.bool (sg q), a.val, b.val], .agg #[.bool (sg r), c.val, d.val]] h fun v h' => ∃ s t : Sl, v = .agg #[.bool (sg (q * r)), s.val, t.val] ∧ IsFr h' s t (q * r) := by
  have e := mul_q q r
  rw [ne_beq] at e
  have i1 := hq.num
  have i2 := hq.den
  have i3 := hr.num
  have i4 := hr.den
  have l1 := hs.num
  have l2 := hs.den
  have l3 := hs'.num
  have l4 := hs'.den
  have p1 := ln_mul two_le_B (nu q) (nu r)
  have p2 := ln_mul two_le_B q.den r.den
  have hd : q.den * r.den ≠ 0 := Nat.mul_ne_zero q.den_nz r.den_nz
  refine fn0_of_codeI ok D.word_Frac_Mul rfl ?_
  conv => whnf
  repeat ((first | refine opsI.step ?_ | refine codeI.step ?_); conv => whnf)
  repeat' first
   | (show CallN _ _ _ _ _ _; first
     | (refine CallN.fn rfl (Mul_ct _ _ _ _ _ (by (iterate 30 (try first | assumption | refine Ws.mono ?_ (by assumption))); first | done | assumption) (by (iterate 30 (try first | assumption | refine Ws.mono ?_ (by assumption))); first | done | assumption) (by omega) (by omega)) (fun v h' hl hr => ?_); obtain ⟨s', rfl, hs'⟩ := hr; conv => whnf)
     | (refine CallN.fn rfl (Reduce_ct _ (by (iterate 30 (try first | assumption | refine Tb.mono ?_ (by assumption))); first | done | assumption) _ _ _ _ _ (by (iterate 30 (try first | assumption | refine Ws.mono ?_ (by assumption))); first | done | assumption) (by assumption) (by omega) (by omega) (by first | assumption | omega)) (fun v h' hl hr => ?_); obtain ⟨a', b', rfl, hq'⟩ := hr; have hqn' := hq'.num; have hqd' := hq'.den; conv => whnf))
   | ((first | refine opsI.step ?_ | refine codeI.step ?_); conv => whnf)
   | (refine ⟨fun _ => HasLe.of_le (by assumption), ?_⟩; conv => whnf)
   | (refine ⟨fun hst => (by cases (show true = false from hst)), ?_⟩; conv => whnf)
   | (intro (_ : Nat); conv => whnf)
   | (show LdN _ _ _ _ _; first
     | (refine LdN.own 0 rfl rfl ?_; conv => whnf))
   | (show Ld _ _ _ _; first
     | (refine Ld.own 1 rfl rfl ?_; conv => whnf)
     | (refine Ld.own 2 rfl rfl ?_; conv => whnf))
   | (show Sto _ _ _ _; first
     | (refine Sto.lit 0 rfl rfl rfl ?_; conv => whnf))
   | (show DrawN _ _ _ _ _ _; first
     | (refine DrawN.run (by decide +kernel) ?_; conv => whnf))
  all_goals exact RetN.all ⟨_, _, by rw [e] <;> rfl, by rw [e]; exact (by assumption)⟩

theorem cmp_le {m n : Nat} (h : 0 ≤ cmpI m n) : n ≤ m := by
  rcases Nat.lt_or_ge m n with h' | h'
  · rw [cmp_lt0 h'] at h; omega
  · exact h'
theorem cmp_neg {m n : Nat} (h : cmpI m n < 0) : m ≤ n := by
  rcases Nat.lt_or_ge m n with h' | h'
  · omega
  · have := (cmp_ge0 h').1; omega
set_option maxRecDepth 20000 in
set_option maxHeartbeats 1000000 in
theorem FAdd_ct (h : Heap) (tb : Tb h) (a b c d : Sl) (q r : Rat) (hq : IsFr h a b q) (hr : IsFr h c d r) (hs : Sz 1073741824 q) (hs' : Sz 1073741824 r) :
    Fn0 T F.word_Frac_Add [.agg #[.bool (sg q), a.val, b.val], .agg #[.bool (sg r), c.val, d.val]] h fun v h' => ∃ s t : Sl, v = .agg #[.bool (sg (q + r)), s.val, t.val] ∧ IsFr h' s t (q + r) := by
  have i1 := hq.num
  have i2 := hq.den
  have i3 := hr.num
  have i4 := hr.den
  have l1 := hs.num
  have l2 := hs.den
  have l3 := hs'.num
  have l4 := hs'.den
  have p1 := ln_mul two_le_B (nu q) r.den
  have p2 := ln_mul two_le_B (nu r) q.den
  have p3 := ln_mul two_le_B q.den r.den
  have hd : q.den * r.den ≠ 0 := Nat.mul_ne_zero q.den_nz r.den_nz
  have e1 := Hq.mk (add_same (q := q) (r := r))
  have e2 := Hq.mk (add_ge (q := q) (r := r))
  have e3 := Hq.mk (add_lt (q := q) (r := r))
  obtain ⟨x, hx⟩ : ∃ x, x = nu q * r.den := ⟨_, rfl⟩
  obtain ⟨y, hy⟩ : ∃ y, y = nu r * q.den := ⟨_, rfl⟩
  obtain ⟨z, hz⟩ : ∃ z, z = q.den * r.den := ⟨_, rfl⟩
  have p4 := ln_add two_le_B x y
  have p5 := ln_le_of_le (Nat.sub_le x y)
  have p6 := ln_le_of_le (Nat.sub_le y x)
  rw [← hx, ← hy, ← hz] at e1 e2 e3
  rw [← hx] at p1
  rw [← hy] at p2
  rw [← hz] at p3 hd
  have hcl := cmp_le (m := x) (n := y)
  have hcn := cmp_neg (m := x) (n := y)
  refine fn0_of_codeI ok D.word_Frac_Add rfl ?_
  conv => whnf
  repeat ((first | refine opsI.step ?_ | refine codeI.step ?_); conv => whnf)
  repeat' first
   | (show CallN _ _ _ _ _ _; first
     | (refine CallN.fn rfl (Mul_ct _ _ _ (nu q) r.den (by (iterate 30 (try first | assumption | refine IsNat.mono ?_ (by assumption))); first | done | assumption) (by assumption) (by omega) (by omega)) (fun v h' hl hr => ?_); rw [← hx] at hr; obtain ⟨s', rfl, hs'⟩ := hr; conv => whnf)
     | (refine CallN.fn rfl (Mul_ct _ _ _ (nu r) q.den (by (iterate 30 (try first | assumption | refine IsNat.mono ?_ (by assumption))); first | done | assumption) (by (iterate 30 (try first | assumption | refine IsNat.mono ?_ (by assumption))); first | done | assumption) (by omega) (by omega)) (fun v h' hl hr => ?_); rw [← hy] at hr; obtain ⟨s', rfl, hs'⟩ := hr; conv => whnf)
     | (refine CallN.fn rfl (Mul_ct _ _ _ q.den r.den (by (iterate 30 (try first | assumption | refine IsNat.mono ?_ (by assumption))); first | done | assumption) (by (iterate 30 (try first | assumption | refine IsNat.mono ?_ (by assumption))); first | done | assumption) (by omega) (by omega)) (fun v h' hl hr => ?_); rw [← hz] at hr; obtain ⟨s', rfl, hs'⟩ := hr; conv => whnf)
     | (refine CallN.fn rfl (Add_ct _ _ _ _ _ (by (iterate 30 (try first | assumption | refine Ws.mono ?_ (by assumption))); first | done | assumption) (by (iterate 30 (try first | assumption | refine Ws.mono ?_ (by assumption))); first | done | assumption) (by omega) (by omega)) (fun v h' hl hr => ?_); obtain ⟨s', rfl, hs'⟩ := hr; conv => whnf)
     | (refine CallN.fn rfl (Sub_ct _ _ _ _ _ (by (iterate 30 (try first | assumption | refine Ws.mono ?_ (by assumption))); first | done | assumption) (by (iterate 30 (try first | assumption | refine Ws.mono ?_ (by assumption))); first | done | assumption) (by omega) (by omega)) (fun v h' hl hr => ?_); obtain ⟨s', rfl, hs'⟩ := hr; conv => whnf)
     | (refine CallN.quiet rfl (Cmp_ct _ _ _ _ _ (by (iterate 30 (try first | assumption | refine Ws.mono ?_ (by assumption))); first | done | assumption) (by (iterate 30 (try first | assumption | refine Ws.mono ?_ (by assumption))); first | done | assumption) (by omega) (by omega)) ?_; conv => whnf)
     | (refine CallN.fn rfl (Reduce_ct _ (by (iterate 30 (try first | assumption | refine Tb.mono ?_ (by assumption))); first | done | assumption) _ _ _ _ _ (by assumption) (by (iterate 30 (try first | assumption | refine Ws.mono ?_ (by assumption))); first | done | assumption) (by omega) (by omega) (by first | assumption | omega)) (fun v h' hl hr => ?_); obtain ⟨a', b', rfl, hq'⟩ := hr; have hqn' := hq'.num; have hqd' := hq'.den; conv => whnf))
   | ((first | refine opsI.step ?_ | refine codeI.step ?_); conv => whnf)
   | (refine ⟨fun _ => HasLe.of_le (by assumption), ?_⟩; conv => whnf)
   | (refine ⟨fun hst => (by cases (show true = false from hst)), ?_⟩; conv => whnf)
   | (intro (_ : Nat); conv => whnf)
   | (show cnd _ _ _; first
     | (refine cnd_le (fun _ => ?_) (fun _ => ?_) <;> first | (exfalso; omega) | (conv => whnf))
     | (refine cnd_beq (fun _ => ?_) (fun hne => ?_) <;> first | exact absurd rfl hne | (conv => whnf)))
   | (show LdN _ _ _ _ _; first
     | (refine LdN.own 0 rfl rfl ?_; conv => whnf))
   | (show Ld _ _ _ _; first
     | (refine Ld.own 1 rfl rfl ?_; conv => whnf)
     | (refine Ld.own 2 rfl rfl ?_; conv => whnf))
   | (show Sto _ _ _ _; first
     | (refine Sto.lit 0 rfl rfl rfl ?_; conv => whnf))
   | (show DrawN _ _ _ _ _ _; first
     | (refine DrawN.run (by decide +kernel) ?_; conv => whnf))
  · exact RetN.all ⟨_, _, by rw [e1.out (by assumption)] <;> rfl, by rw [e1.out (by assumption)]; exact (by assumption)⟩
  · exact RetN.all ⟨_, _, by rw [e2.out (by assumption) (by omega)] <;> rfl, by rw [e2.out (by assumption) (by omega)]; exact (by assumption)⟩
  · exact RetN.all ⟨_, _, by rw [e3.out (by assumption) (by omega)] <;> rfl, by rw [e3.out (by assumption) (by omega)]; exact (by assumption)⟩

set_option maxRecDepth 20000 in
theorem FCmp_ct (h : Heap) (a b c d : Sl) (q r : Rat) (hq : IsFr h a b q) (hr : IsFr h c d r) (hs : Sz 1073741824 q) (hs' : Sz 1073741824 r) :
    Fn0 T F.word_Frac_Cmp [.agg #[.bool (sg q), a.val, b.val], .agg #[.bool (sg r), c.val, d.val]] h fun v _ => v = .int .i64 (cmpQ q r) := by
  have i1 := hq.num
  have i2 := hq.den
  have i3 := hr.num
  have i4 := hr.den
  have l1 := hs.num
  have l2 := hs.den
  have l3 := hs'.num
  have l4 := hs'.den
  have z1 : Sz 1099511627776 q := hs.mono (by omega)
  have z2 : Sz 1099511627776 r := hs'.mono (by omega)
  have p1 := ln_mul two_le_B (nu q) r.den
  have p2 := ln_mul two_le_B (nu r) q.den
  have e1 := Hq.mk (cmpQ_signs (q := q) (r := r))
  have e2 := Hq.mk (cmpQ_same (q := q) (r := r))
  have bc : -1 ≤ cmpI (nu q * r.den) (nu r * q.den) ∧ cmpI (nu q * r.den) (nu r * q.den) ≤ 1 := by unfold cmpI; split <;> (try split) <;> omega
  refine fn0_of_codeI ok D.word_Frac_Cmp rfl ?_
  conv => whnf
  repeat ((first | refine opsI.step ?_ | refine codeI.step ?_); conv => whnf)
  repeat' first
   | (show CallN _ _ _ _ _ _; first
     | (refine CallN.quiet rfl (Sign_ct _ _ _ _ (by assumption) (by assumption)) ?_; conv => whnf)
     | (refine CallN.fn rfl (Mul_ct _ _ _ _ _ (by (iterate 30 (try first | assumption | refine Ws.mono ?_ (by assumption))); first | done | assumption) (by (iterate 30 (try first | assumption | refine Ws.mono ?_ (by assumption))); first | done | assumption) (by omega) (by omega)) (fun v h' hl hr => ?_); obtain ⟨s', rfl, hs'⟩ := hr; conv => whnf)
     | (refine CallN.quiet rfl (Cmp_ct _ _ _ _ _ (by (iterate 30 (try first | assumption | refine Ws.mono ?_ (by assumption))); first | done | assumption) (by assumption) (by omega) (by omega)) ?_; conv => whnf))
   | ((first | refine opsI.step ?_ | refine codeI.step ?_); conv => whnf)
   | (refine ⟨fun _ => HasLe.of_le (Heap.le_refl _), ?_⟩; conv => whnf)
   | (refine ⟨fun _ => HasLe.of_le (by assumption), ?_⟩; conv => whnf)
   | (intro (_ : Nat); conv => whnf)
   | (show WrapN _ _ _; first
     | (refine WrapN.i64 (by omega) (by omega) ?_; conv => whnf))
   | (show cnd _ _ _; first
     | (refine cnd_lt (fun _ => ?_) (fun _ => ?_) <;> first | (exfalso; omega) | (conv => whnf))
     | (refine cnd_eq (fun _ => ?_) (fun _ => ?_) <;> first | (exfalso; omega) | (conv => whnf))
     | (refine cnd_not ?_)
     | (refine cnd_bool (fun _ => ?_) (fun _ => ?_) <;> (conv => whnf)))
   | (show LdN _ _ _ _ _; first
     | (refine LdN.own 0 rfl rfl ?_; conv => whnf)
     | (refine LdN.own 1 rfl rfl ?_; conv => whnf))
   | (show Ld _ _ _ _; first
     | (refine Ld.own 0 rfl rfl ?_; conv => whnf)
     | (refine Ld.own 1 rfl rfl ?_; conv => whnf))
   | (show DrawN _ _ _ _ _ _; first
     | (refine DrawN.run (by decide +kernel) ?_; conv => whnf))
  all_goals refine RetN.all (vi ?_)
  · rw [e2.out (by assumption), if_pos (by assumption)]; omega
  · rw [e2.out (by assumption), if_neg (by simp_all)]
  · rw [e1.out (by assumption), if_pos (by assumption)]
  · rw [e1.out (by assumption), if_neg (by omega)]
end Go.Proofs.YteblflmnhegmjaaDoor
