/- Contracts of package word's functions on rational numbers, first part. -/
import Derived.Test.YtdemgbmndijkkaaGreatDoorRep3
set_option linter.unusedVariables false
set_option linter.unusedSimpArgs false
namespace Go.Proofs.YtdemgbmndijkkaaGreatDoor
open Go Go.Vc Go.Dig

set_option maxRecDepth 20000 in
set_option maxHeartbeats 2000000 in
theorem Reduce_ct (h : Heap) (tb : Tb h) (neg : Bool) (a b : Sl) (m n : Nat) (ha : IsNat h a m) (hb : IsNat h b n) (la : ln 4294967296 m ≤ 8589934592) (lb : ln 4294967296 n ≤ 8589934592) (h0 : n ≠ 0) :
    Fn0 T F.word_Reduce [.bool neg, a.val, b.val] h fun v h' => ∃ a' b' : Sl, v = .agg #[.bool (sg (mkQ neg m n)), a'.val, b'.val] ∧ IsFr h' a' b' (mkQ neg m n) := by
  have e1 := sg_mkQ neg (m := m) h0
  have e2 := nu_mkQ neg (m := m) h0
  have e3 := den_mkQ neg (m := m) h0
  refine fn0_of_codeI ok D.word_Reduce rfl ?_
  conv => whnf
  repeat ((first | refine opsI.step ?_ | refine codeI.step ?_); conv => whnf)
  repeat' first
   | (intro (bo : Nat); conv => whnf)
   | ((first | refine opsI.step ?_ | refine codeI.step ?_); conv => whnf)
   | (show CallN _ _ _ _ _ _; first
     | (refine CallN.quiet rfl (Zero_ct _ _ _ (by assumption) (by omega)) ?_; conv => whnf)
     | (refine CallN.fn rfl (Small_ct _ 1 (by omega)) (fun v h' hl hr => ?_); obtain ⟨s', rfl, hs'⟩ := hr; conv => whnf))
   | (show cnd _ _ _; first
     | (refine cnd_dec (fun _ => ?_) (fun _ => ?_) <;> first | (exfalso; omega) | (conv => whnf)))
   | (show LdN _ _ _ _ _; first
     | (refine LdN.own 0 rfl rfl ?_; conv => whnf))
   | (show Sto _ _ _ _; first
     | (refine Sto.lit 0 rfl rfl rfl ?_; conv => whnf))
  · subst_vars
    rw [mkQ_zero, sg_zero]
    exact RetN.all ⟨⟨none, 0, 0⟩, _, rfl, by rw [nu_zero]; exact IsNat.nil rfl, ‹_›⟩
  have hm : m ≠ 0 := by assumption
  have t1 := tw_le_ln m
  have t2 := tw_le_ln n
  refine SeqN.cut (fun ρ h2 L => ∃ k : Nat, k = min (tw m) (tw n) ∧ h.le h2 ∧ L = [(bo, .cells #[.bool false, .slice none 0 0, .slice none 0 0] Ty.word_Frac (0, 0))] ∧ ∃ a' b' : Sl, rd ρ 1 = a'.val ∧ rd ρ 2 = b'.val ∧ IsNat h2 a' (m / 2 ^ k) ∧ IsNat h2 b' (n / 2 ^ k)) ?_ ?_
  · obtain ⟨k, hk⟩ : ∃ k, k = min (tw m) (tw n) := ⟨_, rfl⟩
    have hmm : mm false (tw m : Int) (tw n) = (k : Int) := by rw [mm_min, hk]
    have hk1 : k ≤ tw m := by omega
    replace hk := Hq.mk hk
    conv => whnf
    repeat ((first | refine opsI.step ?_ | refine codeI.step ?_); conv => whnf)
    repeat' first
     | (show CallN _ _ _ _ _ _; first
       | (refine CallN.quiet rfl (Twos_ct _ (by assumption) _ _ (by assumption) (by omega)) ?_; conv => whnf))
     | ((first | refine opsI.step ?_ | refine codeI.step ?_); conv => whnf)
     | (show cnd _ _ _; first
       | (refine cnd_lt (fun _ => ?_) (fun _ => ?_) <;> first | (exfalso; omega) | (conv => whnf)))
    all_goals rw [hmm] at *
    all_goals (repeat' first
       | (show CallN _ _ _ _ _ _; first
         | (refine CallN.fn rfl (Shr_ct _ _ _ _ (by (iterate 30 (try first | assumption | refine Ws.mono ?_ (by assumption))); first | done | assumption) (by omega) (by omega)) (fun v h' hl hr => ?_); obtain ⟨s', rfl, hs'⟩ := hr; conv => whnf))
       | ((first | refine opsI.step ?_ | refine codeI.step ?_); conv => whnf))
    · exact ⟨rfl, k, hk.out, (by (iterate 30 (try first | assumption | refine Heap.le_trans ?_ (by assumption))); first | done | assumption), rfl, _, _, rfl, rfl, (by (iterate 30 (try first | assumption | refine IsNat.mono ?_ (by assumption))); first | done | assumption), (by assumption)⟩
    · refine ⟨rfl, k, hk.out, (by (iterate 30 (try first | assumption | exact Heap.le_refl _)); first | done | assumption), rfl, a, b, rfl, rfl, ?_, ?_⟩ <;> rw [show k = 0 by omega, Nat.pow_zero, Nat.div_one] <;> assumption
  conv => whnf
  repeat intro _
  rename_i h2 L2 hJ
  obtain ⟨k, hk, hle, rfl, a', b', s1, s2, hs1, hs2⟩ := hJ
  conv at s1 => lhs; whnf
  subst s1
  conv at s2 => lhs; whnf
  subst s2
  have lm1 := ln_div m (2 ^ k)
  have ln1 := ln_div n (2 ^ k)
  obtain ⟨p1, p2, p3, p4, p5, p6⟩ := red_pow (k := k) hm h0 (by omega) (by omega)
  have hg := red_gcd hm h0 hk
  rw [p5] at e2
  rw [p6] at e3
  clear p1 p2 p5 p6 hk t1 t2 ha hb
  generalize m / 2 ^ k = m1 at hs1 hs2 lm1 ln1 p3 p4 hg e2 e3
  generalize n / 2 ^ k = n1 at hs1 hs2 lm1 ln1 p3 p4 hg e2 e3
  have b1 := bl_le_ln n1
  have t1 := tw_le_ln n1
  have lg := ln_gcd m1 n1 p4
  have g0 : Nat.gcd m1 n1 ≠ 0 := by have := Nat.gcd_pos_of_pos_right m1 (Nat.pos_of_ne_zero p4); omega
  replace tb := tb.mono hle
  rw [show (neg && decide (m ≠ 0)) = neg by simp [hm]] at e1
  replace hg := Hq.mk hg
  replace e1 := Hq.mk e1
  replace e2 := Hq.mk e2
  replace e3 := Hq.mk e3
  conv => whnf
  repeat ((first | refine opsI.step ?_ | refine codeI.step ?_); conv => whnf)
  repeat' first
   | (show SeqN _ _ _ _ _ _ _; first
     | (refine SeqN.go ?_; conv => whnf))
   | (show CallN _ _ _ _ _ _; first
     | (refine CallN.quiet rfl (Twos_ct _ (by assumption) _ _ (by assumption) (by omega)) ?_; conv => whnf)
     | (refine CallN.quiet rfl (Bits_ct _ _ _ (by assumption) (by omega)) ?_; conv => whnf)
     | (refine CallN.quiet rfl (One_ct _ _ _ (by assumption) (by omega)) ?_; conv => whnf)
     | (refine CallN.fn rfl (GCD_ct _ _ _ _ _ (by assumption) (by assumption) (by omega) (by omega)) (fun v h' hl hr => ?_); obtain ⟨s', rfl, hs'⟩ := hr; conv => whnf)
     | (refine CallN.fn rfl (Div_ct _ _ _ _ _ (by (iterate 30 (try first | assumption | refine Ws.mono ?_ (by assumption))); first | done | assumption) (by (iterate 30 (try first | assumption | refine IsNat.mono ?_ (by assumption))); first | done | assumption) (by omega) (by omega) g0) (fun v h' hl hr => ?_); obtain ⟨q', r', rfl, hq', hr'⟩ := hr; conv => whnf))
   | ((first | refine opsI.step ?_ | refine codeI.step ?_); conv => whnf)
   | (show WrapN _ _ _; first
     | (refine WrapN.i64 (by omega) (by omega) ?_; conv => whnf))
   | (show cnd _ _ _; first
     | (refine cnd_eq (fun _ => ?_) (fun _ => ?_) <;> first | (exfalso; omega) | (conv => whnf))
     | (refine cnd_not ?_)
     | (refine cnd_dec (fun _ => ?_) (fun _ => ?_) <;> first | (exfalso; omega) | (conv => whnf)))
   | (show LdN _ _ _ _ _; first
     | (refine LdN.own 0 rfl rfl ?_; conv => whnf))
   | (show Sto _ _ _ _; first
     | (refine Sto.lit 0 rfl rfl rfl ?_; conv => whnf))
  · have hg1 := hg.out (by omega)
    rw [hg1, Nat.div_one] at e2 e3
    exact RetN.all ⟨a', b', by rw [e1.out] <;> rfl, ⟨by rw [e2.out]; exact hs1, by rw [e3.out]; exact hs2⟩⟩
  · have hg1 : Nat.gcd m1 n1 = 1 := by assumption
    rw [hg1, Nat.div_one] at e2 e3
    exact RetN.all ⟨a', b', by rw [e1.out] <;> rfl, ⟨by rw [e2.out]; exact (by (iterate 30 (try first | assumption | refine IsNat.mono ?_ (by assumption))); first | done | assumption), by rw [e3.out]; exact (by (iterate 30 (try first | assumption | refine IsNat.mono ?_ (by assumption))); first | done | assumption)⟩⟩
  · exact RetN.all ⟨_, _, by rw [e1.out] <;> rfl, ⟨by rw [e2.out]; exact (by (iterate 30 (try first | assumption | refine IsNat.mono ?_ (by assumption))); first | done | assumption), by rw [e3.out]; exact (by assumption)⟩⟩
end Go.Proofs.YtdemgbmndijkkaaGreatDoor
/- Contracts of package word's functions on rational numbers, second part: the field operations, signs, comparison, the grid. -/
namespace Go.Proofs.YtdemgbmndijkkaaGreatDoor
open Go Go.Vc Go.Dig

/-- whether a number is not large -/
def fits (q : Rat) : Prop := ln 4294967296 (nu q) ≤ 64 ∧ ln 4294967296 q.den ≤ 64
instance (q : Rat) : Decidable (fits q) := by unfold fits; exact inferInstance

theorem Fits_ct (h : Heap) (a b : Sl) (q : Rat) (hq : IsFr h a b q) (hs : Sz 1099511627776 q) : Fn0 T F.word_Frac_Fits [.agg #[.bool (sg q), a.val, b.val]] h fun v h' => h' = h ∧ v = .bool (dec (fits q)) := by
  have h1 := hq.num.len
  have h2 := hq.den.len
  have h3 := hs.num
  have h4 := hs.den
  refine fn0_of_codeI ok D.word_Frac_Fits rfl ?_
  conv => whnf
  repeat ((first | refine opsI.step ?_ | refine codeI.step ?_); conv => whnf)
  repeat' first
   | ((first | refine opsI.step ?_ | refine codeI.step ?_); conv => whnf)
   | (intro (_ : Nat); conv => whnf)
   | (show cnd _ _ _; first
     | (refine cnd_le (fun _ => ?_) (fun _ => ?_) <;> first | (exfalso; omega) | (conv => whnf)))
   | (show Ld _ _ _ _; first
     | (refine Ld.own 0 rfl rfl ?_; conv => whnf))
  · refine RetN.all ⟨rfl, ?_⟩
    by_cases hh : ln 4294967296 q.den ≤ 64
    · rw [dec_true ⟨by omega, hh⟩, le_true' (by omega)]
    · rw [dec_false (fun x => hh x.2), le_false' (by omega)]
  · exact RetN.all ⟨rfl, by rw [dec_false (fun x => by have := x.1; omega)]⟩

theorem Opposite_ct (h : Heap) (a b : Sl) (q : Rat) (hq : IsFr h a b q) (hs : Sz 1099511627776 q) : Fn0 T F.word_Frac_Opposite [.agg #[.bool (sg q), a.val, b.val]] h fun v h' => h' = h ∧ v = .agg #[.bool (sg (-q)), a.val, b.val] := by
  have h1 := hq.num
  have h3 := hs.num
  have e := sg_neg q
  refine fn0_of_codeI ok D.word_Frac_Opposite rfl ?_
  conv => whnf
  repeat ((first | refine opsI.step ?_ | refine codeI.step ?_); conv => whnf)
  repeat' first
   | (show CallN _ _ _ _ _ _; first
     | (refine CallN.quiet rfl (Zero_ct _ _ _ (by assumption) (by omega)) ?_; conv => whnf))
   | ((first | refine opsI.step ?_ | refine codeI.step ?_); conv => whnf)
   | (intro (_ : Nat); conv => whnf)
   | (show cnd _ _ _; first
     | (refine cnd_not ?_)
     | (refine cnd_bool (fun _ => ?_) (fun _ => ?_) <;> (conv => whnf)))
   | (show LdN _ _ _ _ _; first
     | (refine LdN.own 0 rfl rfl ?_; conv => whnf)
     | (refine LdN.own 1 rfl rfl ?_; conv => whnf))
   | (show Ld _ _ _ _; first
     | (refine Ld.own 1 rfl rfl ?_; conv => whnf))
   | (show Sto _ _ _ _; first
     | (refine Sto.lit 0 rfl rfl rfl ?_; conv => whnf)
     | (refine Sto.lit 1 rfl rfl rfl ?_; conv => whnf))
  · refine RetN.all ⟨rfl, ?_⟩
    rw [e]; simp_all [dec_eq]
  · refine RetN.all ⟨rfl, ?_⟩
    rw [e]
    by_cases hz : nu q = 0 <;> simp_all [dec_eq]
theorem IsFr.neg {h : Heap} {a b : Sl} {q : Rat} (w : IsFr h a b q) : IsFr h a b (-q) := ⟨by rw [nu_neg]; exact w.num, by rw [Rat.neg_den]; exact w.den⟩

theorem Inverse_ct (h : Heap) (a b : Sl) (q : Rat) (hq : IsFr h a b q) (h0 : nu q ≠ 0) : Fn0 T F.word_Frac_Inverse [.agg #[.bool (sg q), a.val, b.val]] h fun v h' => h' = h ∧ v = .agg #[.bool (sg q⁻¹), b.val, a.val] := by
  have e := sg_inv q
  refine fn0_of_codeI ok D.word_Frac_Inverse rfl ?_
  conv => whnf
  repeat ((first | refine opsI.step ?_ | refine codeI.step ?_); conv => whnf)
  repeat' first
   | ((first | refine opsI.step ?_ | refine codeI.step ?_); conv => whnf)
   | (intro (_ : Nat); conv => whnf)
   | (show LdN _ _ _ _ _; first
     | (refine LdN.own 0 rfl rfl ?_; conv => whnf))
   | (show Ld _ _ _ _; first
     | (refine Ld.own 1 rfl rfl ?_; conv => whnf))
   | (show Sto _ _ _ _; first
     | (refine Sto.lit 0 rfl rfl rfl ?_; conv => whnf))
  exact RetN.all ⟨rfl, by rw [e] <;> rfl⟩
theorem IsFr.inv {h : Heap} {a b : Sl} {q : Rat} (w : IsFr h a b q) (h0 : nu q ≠ 0) : IsFr h b a q⁻¹ := ⟨by rw [nu_inv q h0]; exact w.den, by rw [den_inv q h0]; exact w.num⟩

theorem Sign_ct (h : Heap) (a b : Sl) (q : Rat) (hq : IsFr h a b q) (hs : Sz 1099511627776 q) : Fn0 T F.word_Frac_Sign [.agg #[.bool (sg q), a.val, b.val]] h fun v h' => h' = h ∧ v = .int .i64 (signQ q) := by
  have h1 := hq.num
  have h3 := hs.num
  refine fn0_of_codeI ok D.word_Frac_Sign rfl ?_
  conv => whnf
  repeat ((first | refine opsI.step ?_ | refine codeI.step ?_); conv => whnf)
  repeat' first
   | (show CallN _ _ _ _ _ _; first
     | (refine CallN.quiet rfl (Zero_ct _ _ _ (by assumption) (by omega)) ?_; conv => whnf))
   | ((first | refine opsI.step ?_ | refine codeI.step ?_); conv => whnf)
   | (intro (_ : Nat); conv => whnf)
   | (show cnd _ _ _; first
     | (refine cnd_dec (fun _ => ?_) (fun _ => ?_) <;> first | (exfalso; omega) | (conv => whnf))
     | (refine cnd_bool (fun _ => ?_) (fun _ => ?_) <;> (conv => whnf)))
   | (show Ld _ _ _ _; first
     | (refine Ld.own 0 rfl rfl ?_; conv => whnf))
  all_goals refine RetN.all ⟨rfl, vi ?_⟩
  · unfold signQ; rw [if_pos (by assumption)]
  · unfold signQ; rw [if_neg (by assumption), if_pos (by assumption)]
  · unfold signQ; rw [if_neg (by assumption), if_neg (by simp_all)]

theorem ne_beq (a b : Bool) : (a != b) = !beq a b := by unfold beq; rfl
set_option maxRecDepth 20000 in
theorem FMul_ct (h : Heap) (tb : Tb h) (a b c d : Sl) (q r : Rat) (hq : IsFr h a b q) (hr : IsFr h c d r) (hs : Sz 1073741824 q) (hs' : Sz 1073741824 r) :
    Fn0 T F.word_Frac_Mul [.agg #[.bool (sg q), a.val, b.val], .agg #[.bool (sg r), c.val, d.val]] h fun v h' => ∃ s t : Sl, v = .agg #[.bool (sg (q * r)), s.val, t.val] ∧ IsFr h' s t (q * r) := by
  have e := mul_q q r
  rw [ne_beq] at e
  have i1 := hq.num
  have i2 := hq.den
  have i3 := hr.num
  have i4 := hr.den
  have l1 := hs.num
  have l2 := hs.den
  have l3 := hs'.num
  have l4 := hs'.den
  have p1 := ln_mul two_le_B (nu q) (nu r)
  have p2 := ln_mul two_le_B q.den r.den
  have hd : q.den * r.den ≠ 0 := Nat.mul_ne_zero q.den_nz r.den_nz
  refine fn0_of_codeI ok D.word_Frac_Mul rfl ?_
  conv => whnf
  repeat ((first | refine opsI.step ?_ | refine codeI.step ?_); conv => whnf)
  repeat' first
   | (show CallN _ _ _ _ _ _; first
     | (refine CallN.fn rfl (Mul_ct _ _ _ _ _ (by (iterate 30 (try first | assumption | refine Ws.mono ?_ (by assumption))); first | done | assumption) (by (iterate 30 (try first | assumption | refine Ws.mono ?_ (by assumption))); first | done | assumption) (by omega) (by omega)) (fun v h' hl hr => ?_); obtain ⟨s', rfl, hs'⟩ := hr; conv => whnf)
     | (refine CallN.fn rfl (Reduce_ct _ (by (iterate 30 (try first | assumption | refine Tb.mono ?_ (by assumption))); first | done | assumption) _ _ _ _ _ (by (iterate 30 (try first | assumption | refine Ws.mono ?_ (by assumption))); first | done | assumption) (by assumption) (by omega) (by omega) (by first | assumption | omega)) (fun v h' hl hr => ?_); obtain ⟨a', b', rfl, hq'⟩ := hr; have hqn' := hq'.num; have hqd' := hq'.den; conv => whnf))
   | ((first | refine opsI.step ?_ | refine codeI.step ?_); conv => whnf)
   | (refine ⟨fun _ => HasLe.of_le (by assumption), ?_⟩; conv => whnf)
   | (refine ⟨fun hst => (by cases (show true = false from hst)), ?_⟩; conv => whnf)
   | (intro (_ : Nat); conv => whnf)
   | (show LdN _ _ _ _ _; first
     | (refine LdN.own 0 rfl rfl ?_; conv => whnf))
   | (show Ld _ _ _ _; first
     | (refine Ld.own 1 rfl rfl ?_; conv => whnf)
     | (refine Ld.own 2 rfl rfl ?_; conv => whnf))
   | (show Sto _ _ _ _; first
     | (refine Sto.lit 0 rfl rfl rfl ?_; conv => whnf))
   | (show DrawN _ _ _ _ _ _; first
     | (refine DrawN.run (by decide +kernel) ?_; conv => whnf))
  all_goals exact RetN.all ⟨_, _, by rw [e] <;> rfl, by rw [e]; exact (by assumption)⟩

theorem cmp_le {m n : Nat} (h : 0 ≤ cmpI m n) : n ≤ m := by
  rcases Nat.lt_or_ge m n with h' | h'
  · rw [cmp_lt0 h'] at h; omega
  · exact h'
theorem cmp_neg {m n : Nat} (h : cmpI m n < 0) : m ≤ n := by
  rcases Nat.lt_or_ge m n with h' | h'
  · omega
  · have := (cmp_ge0 h').1; omega
set_option maxRecDepth 20000 in
set_option maxHeartbeats 1000000 in
theorem FAdd_ct (h : Heap) (tb : Tb h) (a b c d : Sl) (q r : Rat) (hq : IsFr h a b q) (hr : IsFr h c d r) (hs : Sz 1073741824 q) (hs' : Sz 1073741824 r) :
    Fn0 T F.word_Frac_Add [.agg #[.bool (sg q), a.val, b.val], .agg #[.bool (sg r), c.val, d.val]] h fun v h' => ∃ s t : Sl, v = .agg #[.bool (sg (q + r)), s.val, t.val] ∧ IsFr h' s t (q + r) := by
  have i1 := hq.num
  have i2 := hq.den
  have i3 := hr.num
  have i4 := hr.den
  have l1 := hs.num
  have l2 := hs.den
  have l3 := hs'.num
  have l4 := hs'.den
  have p1 := ln_mul two_le_B (nu q) r.den
  have p2 := ln_mul two_le_B (nu r) q.den
  have p3 := ln_mul two_le_B q.den r.den
  have hd : q.den * r.den ≠ 0 := Nat.mul_ne_zero q.den_nz r.den_nz
  have e1 := Hq.mk (add_same (q := q) (r := r))
  have e2 := Hq.mk (add_ge (q := q) (r := r))
  have e3 := Hq.mk (add_lt (q := q) (r := r))
  obtain ⟨x, hx⟩ : ∃ x, x = nu q * r.den := ⟨_, rfl⟩
  obtain ⟨y, hy⟩ : ∃ y, y = nu r * q.den := ⟨_, rfl⟩
  obtain ⟨z, hz⟩ : ∃ z, z = q.den * r.den := ⟨_, rfl⟩
  have p4 := ln_add two_le_B x y
  have p5 := ln_le_of_le (Nat.sub_le x y)
  have p6 := ln_le_of_le (Nat.sub_le y x)
  rw [← hx, ← hy, ← hz] at e1 e2 e3
  rw [← hx] at p1
  rw [← hy] at p2
  rw [← hz] at p3 hd
  have hcl := cmp_le (m := x) (n := y)
  have hcn := cmp_neg (m := x) (n := y)
  refine fn0_of_codeI ok D.word_Frac_Add rfl ?_
  conv => whnf
  repeat ((first | refine opsI.step ?_ | refine codeI.step ?_); conv => whnf)
  repeat' first
   | (show CallN _ _ _ _ _ _; first
     | (refine CallN.fn rfl (Mul_ct _ _ _ (nu q) r.den (by (iterate 30 (try first | assumption | refine IsNat.mono ?_ (by assumption))); first | done | assumption) (by assumption) (by omega) (by omega)) (fun v h' hl hr => ?_); rw [← hx] at hr; obtain ⟨s', rfl, hs'⟩ := hr; conv => whnf)
     | (refine CallN.fn rfl (Mul_ct _ _ _ (nu r) q.den (by (iterate 30 (try first | assumption | refine IsNat.mono ?_ (by assumption))); first | done | assumption) (by (iterate 30 (try first | assumption | refine IsNat.mono ?_ (by assumption))); first | done | assumption) (by omega) (by omega)) (fun v h' hl hr => ?_); rw [← hy] at hr; obtain ⟨s', rfl, hs'⟩ := hr; conv => whnf)
     | (refine CallN.fn rfl (Mul_ct _ _ _ q.den r.den (by (iterate 30 (try first | assumption | refine IsNat.mono ?_ (by assumption))); first | done | assumption) (by (iterate 30 (try first | assumption | refine IsNat.mono ?_ (by assumption))); first | done | assumption) (by omega) (by omega)) (fun v h' hl hr => ?_); rw [← hz] at hr; obtain ⟨s', rfl, hs'⟩ := hr; conv => whnf)
     | (refine CallN.fn rfl (Add_ct _ _ _ _ _ (by (iterate 30 (try first | assumption | refine Ws.mono ?_ (by assumption))); first | done | assumption) (by (iterate 30 (try first | assumption | refine Ws.mono ?_ (by assumption))); first | done | assumption) (by omega) (by omega)) (fun v h' hl hr => ?_); obtain ⟨s', rfl, hs'⟩ := hr; conv => whnf)
     | (refine CallN.fn rfl (Sub_ct _ _ _ _ _ (by (iterate 30 (try first | assumption | refine Ws.mono ?_ (by assumption))); first | done | assumption) (by (iterate 30 (try first | assumption | refine Ws.mono ?_ (by assumption))); first | done | assumption) (by omega) (by omega)) (fun v h' hl hr => ?_); obtain ⟨s', rfl, hs'⟩ := hr; conv => whnf)
     | (refine CallN.quiet rfl (Cmp_ct _ _ _ _ _ (by (iterate 30 (try first | assumption | refine Ws.mono ?_ (by assumption))); first | done | assumption) (by (iterate 30 (try first | assumption | refine Ws.mono ?_ (by assumption))); first | done | assumption) (by omega) (by omega)) ?_; conv => whnf)
     | (refine CallN.fn rfl (Reduce_ct _ (by (iterate 30 (try first | assumption | refine Tb.mono ?_ (by assumption))); first | done | assumption) _ _ _ _ _ (by assumption) (by (iterate 30 (try first | assumption | refine Ws.mono ?_ (by assumption))); first | done | assumption) (by omega) (by omega) (by first | assumption | omega)) (fun v h' hl hr => ?_); obtain ⟨a', b', rfl, hq'⟩ := hr; have hqn' := hq'.num; have hqd' := hq'.den; conv => whnf))
   | ((first | refine opsI.step ?_ | refine codeI.step ?_); conv => whnf)
   | (refine ⟨fun _ => HasLe.of_le (by assumption), ?_⟩; conv => whnf)
   | (refine ⟨fun hst => (by cases (show true = false from hst)), ?_⟩; conv => whnf)
   | (intro (_ : Nat); conv => whnf)
   | (show cnd _ _ _; first
     | (refine cnd_le (fun _ => ?_) (fun _ => ?_) <;> first | (exfalso; omega) | (conv => whnf))
     | (refine cnd_beq (fun _ => ?_) (fun hne => ?_) <;> first | exact absurd rfl hne | (conv => whnf)))
   | (show LdN _ _ _ _ _; first
     | (refine LdN.own 0 rfl rfl ?_; conv => whnf))
   | (show Ld _ _ _ _; first
     | (refine Ld.own 1 rfl rfl ?_; conv => whnf)
     | (refine Ld.own 2 rfl rfl ?_; conv => whnf))
   | (show Sto _ _ _ _; first
     | (refine Sto.lit 0 rfl rfl rfl ?_; conv => whnf))
   | (show DrawN _ _ _ _ _ _; first
     | (refine DrawN.run (by decide +kernel) ?_; conv => whnf))
  · exact RetN.all ⟨_, _, by rw [e1.out (by assumption)] <;> rfl, by rw [e1.out (by assumption)]; exact (by assumption)⟩
  · exact RetN.all ⟨_, _, by rw [e2.out (by assumption) (by omega)] <;> rfl, by rw [e2.out (by assumption) (by omega)]; exact (by assumption)⟩
  · exact RetN.all ⟨_, _, by rw [e3.out (by assumption) (by omega)] <;> rfl, by rw [e3.out (by assumption) (by omega)]; exact (by assumption)⟩

set_option maxRecDepth 20000 in
theorem FCmp_ct (h : Heap) (a b c d : Sl) (q r : Rat) (hq : IsFr h a b q) (hr : IsFr h c d r) (hs : Sz 1073741824 q) (hs' : Sz 1073741824 r) :
    Fn0 T F.word_Frac_Cmp [.agg #[.bool (sg q), a.val, b.val], .agg #[.bool (sg r), c.val, d.val]] h fun v _ => v = .int .i64 (cmpQ q r) := by
  have i1 := hq.num
  have i2 := hq.den
  have i3 := hr.num
  have i4 := hr.den
  have l1 := hs.num
  have l2 := hs.den
  have l3 := hs'.num
  have l4 := hs'.den
  have z1 : Sz 1099511627776 q := hs.mono (by omega)
  have z2 : Sz 1099511627776 r := hs'.mono (by omega)
  have p1 := ln_mul two_le_B (nu q) r.den
  have p2 := ln_mul two_le_B (nu r) q.den
  have e1 := Hq.mk (cmpQ_signs (q := q) (r := r))
  have e2 := Hq.mk (cmpQ_same (q := q) (r := r))
  have bc : -1 ≤ cmpI (nu q * r.den) (nu r * q.den) ∧ cmpI (nu q * r.den) (nu r * q.den) ≤ 1 := by unfold cmpI; split <;> (try split) <;> omega
  refine fn0_of_codeI ok D.word_Frac_Cmp rfl ?_
  conv => whnf
  repeat ((first | refine opsI.step ?_ | refine codeI.step ?_); conv => whnf)
  repeat' first
   | (show CallN _ _ _ _ _ _; first
     | (refine CallN.quiet rfl (Sign_ct _ _ _ _ (by assumption) (by assumption)) ?_; conv => whnf)
     | (refine CallN.fn rfl (Mul_ct _ _ _ _ _ (by (iterate 30 (try first | assumption | refine Ws.mono ?_ (by assumption))); first | done | assumption) (by (iterate 30 (try first | assumption | refine Ws.mono ?_ (by assumption))); first | done | assumption) (by omega) (by omega)) (fun v h' hl hr => ?_); obtain ⟨s', rfl, hs'⟩ := hr; conv => whnf)
     | (refine CallN.quiet rfl (Cmp_ct _ _ _ _ _ (by (iterate 30 (try first | assumption | refine Ws.mono ?_ (by assumption))); first | done | assumption) (by assumption) (by omega) (by omega)) ?_; conv => whnf))
   | ((first | refine opsI.step ?_ | refine codeI.step ?_); conv => whnf)
   | (refine ⟨fun _ => HasLe.of_le (Heap.le_refl _), ?_⟩; conv => whnf)
   | (refine ⟨fun _ => HasLe.of_le (by assumption), ?_⟩; conv => whnf)
   | (intro (_ : Nat); conv => whnf)
   | (show WrapN _ _ _; first
     | (refine WrapN.i64 (by omega) (by omega) ?_; conv => whnf))
   | (show cnd _ _ _; first
     | (refine cnd_lt (fun _ => ?_) (fun _ => ?_) <;> first | (exfalso; omega) | (conv => whnf))
     | (refine cnd_eq (fun _ => ?_) (fun _ => ?_) <;> first | (exfalso; omega) | (conv => whnf))
     | (refine cnd_not ?_)
     | (refine cnd_bool (fun _ => ?_) (fun _ => ?_) <;> (conv => whnf)))
   | (show LdN _ _ _ _ _; first
     | (refine LdN.own 0 rfl rfl ?_; conv => whnf)
     | (refine LdN.own 1 rfl rfl ?_; conv => whnf))
   | (show Ld _ _ _ _; first
     | (refine Ld.own 0 rfl rfl ?_; conv => whnf)
     | (refine Ld.own 1 rfl rfl ?_; conv => whnf))
   | (show DrawN _ _ _ _ _ _; first
     | (refine DrawN.run (by decide +kernel) ?_; conv => whnf))
  all_goals refine RetN.all (vi ?_)
  · rw [e2.out (by assumption), if_pos (by assumption)]; omega
  · rw [e2.out (by assumption), if_neg (by simp_all)]
  · rw [e1.out (by assumption), if_pos (by assumption)]
  · rw [e1.out (by assumption), if_neg (by omega)]
end Go.Proofs.YtdemgbmndijkkaaGreatDoor
/- Contracts of package word's functions on rational numbers, third part: the grid, powers, ints, reading and giving values. -/
namespace Go.Proofs.YtdemgbmndijkkaaGreatDoor
open Go Go.Vc Go.Dig

set_option maxRecDepth 20000 in
set_option maxHeartbeats 1000000 in
theorem FGrid_ct (h : Heap) (tb : Tb h) (a b : Sl) (q : Rat) (p : Nat) (up : Bool) (hq : IsFr h a b q) (hs : Sz 1073741824 q) (hp : p ≤ 65536) :
    Fn0 T F.word_Frac_Grid [.agg #[.bool (sg q), a.val, b.val], .int .i64 p, .bool up] h fun v h' => ∃ s t : Sl, v = .agg #[.bool (sg (gridQ q p up)), s.val, t.val] ∧ IsFr h' s t (gridQ q p up) := by
  have i1 := hq.num
  have i2 := hq.den
  have l1 := hs.num
  have l2 := hs.den
  have e := grid_eq q p up
  have hd := q.den_nz
  have p1 := ln_mul two_le_B (nu q) (2 ^ p)
  have p2 := ln_two_pow p
  have hd2 : 2 ^ p ≠ 0 := two_pow_ne p
  obtain ⟨P, hP⟩ : ∃ P, P = 2 ^ p := ⟨_, rfl⟩
  obtain ⟨N, hN⟩ : ∃ N, N = nu q * 2 ^ p := ⟨_, rfl⟩
  rw [← hN] at p1 e
  rw [← hP] at p1 p2 hd2 e
  have p3 := ln_div N q.den
  have p4 := ln_le_of_le (Nat.le_of_lt (Nat.mod_lt N (Nat.pos_of_ne_zero hd)))
  have p5 := ln_add two_le_B (N / q.den) 1
  have p6 := ln_one 4294967296 two_le_B
  replace e := Hq.mk e
  refine fn0_of_codeI ok D.word_Frac_Grid rfl ?_
  conv => whnf
  repeat ((first | refine opsI.step ?_ | refine codeI.step ?_); conv => whnf)
  repeat' first
   | (show SeqN _ _ _ _ _ _ _; first
     | (refine SeqN.go ?_; conv => whnf))
   | (show CallN _ _ _ _ _ _; first
     | (refine CallN.fn rfl (Shl_ct _ _ (nu q) p (by (iterate 30 (try first | assumption | refine IsNat.mono ?_ (by assumption))); first | done | assumption) (by omega) (by omega)) (fun v h' hl hr => ?_); rw [← hN] at hr; obtain ⟨s', rfl, hs'⟩ := hr; conv => whnf)
     | (refine CallN.fn rfl (Shl_ct _ _ 1 p (by assumption) (by omega) (by omega)) (fun v h' hl hr => ?_); rw [Nat.one_mul, ← hP] at hr; obtain ⟨s', rfl, hs'⟩ := hr; conv => whnf)
     | (refine CallN.fn rfl (Div_ct _ _ _ _ _ (by assumption) (by (iterate 30 (try first | assumption | refine Ws.mono ?_ (by assumption))); first | done | assumption) (by omega) (by omega) (by first | assumption | omega)) (fun v h' hl hr => ?_); obtain ⟨q', r', rfl, hq', hr'⟩ := hr; conv => whnf)
     | (refine CallN.quiet rfl (Zero_ct _ _ _ (by assumption) (by omega)) ?_; conv => whnf)
     | (refine CallN.fn rfl (Small_ct _ 1 (by omega)) (fun v h' hl hr => ?_); obtain ⟨s', rfl, hs'⟩ := hr; conv => whnf)
     | (refine CallN.fn rfl (Add_ct _ _ _ _ _ (by (iterate 30 (try first | assumption | refine Ws.mono ?_ (by assumption))); first | done | assumption) (by assumption) (by omega) (by omega)) (fun v h' hl hr => ?_); obtain ⟨s', rfl, hs'⟩ := hr; conv => whnf)
     | (refine CallN.fn rfl (Reduce_ct _ (by (iterate 30 (try first | assumption | refine Tb.mono ?_ (by assumption))); first | done | assumption) _ _ _ _ _ (by (iterate 30 (try first | assumption | refine Ws.mono ?_ (by assumption))); first | done | assumption) (by assumption) (by omega) (by omega) (by first | assumption | omega)) (fun v h' hl hr => ?_); obtain ⟨a', b', rfl, hq'⟩ := hr; have hqn' := hq'.num; have hqd' := hq'.den; conv => whnf))
   | ((first | refine opsI.step ?_ | refine codeI.step ?_); conv => whnf)
   | (refine ⟨fun _ => HasLe.of_le (by assumption), ?_⟩; conv => whnf)
   | (refine ⟨fun hst => (by cases (show true = false from hst)), ?_⟩; conv => whnf)
   | (intro (_ : Nat); conv => whnf)
   | (show cnd _ _ _; first
     | (refine cnd_not ?_)
     | (refine cnd_beq (fun _ => ?_) (fun hne => ?_) <;> first | exact absurd rfl hne | (conv => whnf))
     | (refine cnd_dec (fun _ => ?_) (fun _ => ?_) <;> first | (exfalso; omega) | (conv => whnf)))
   | (show LdN _ _ _ _ _; first
     | (refine LdN.own 0 rfl rfl ?_; conv => whnf))
   | (show Ld _ _ _ _; first
     | (refine Ld.own 1 rfl rfl ?_; conv => whnf))
   | (show Sto _ _ _ _; first
     | (refine Sto.lit 0 rfl rfl rfl ?_; conv => whnf))
   | (show DrawN _ _ _ _ _ _; first
     | (refine DrawN.run (by decide +kernel) ?_; conv => whnf))
  all_goals first
    | exact RetN.all ⟨_, _, by rw [e.out, if_pos (.inl (by assumption)), Nat.add_zero] <;> rfl, by rw [e.out, if_pos (.inl (by assumption)), Nat.add_zero]; exact (by assumption)⟩
    | exact RetN.all ⟨_, _, by rw [e.out, if_pos (.inr (by assumption)), Nat.add_zero] <;> rfl, by rw [e.out, if_pos (.inr (by assumption)), Nat.add_zero]; exact (by assumption)⟩
    | exact RetN.all ⟨_, _, by rw [e.out, if_neg (by rintro (hh | hh) <;> contradiction)] <;> rfl, by rw [e.out, if_neg (by rintro (hh | hh) <;> contradiction)]; exact (by assumption)⟩

theorem WrapN.u64v {n : Int} {k : Int → Prop} (x : Nat) (h : n % 18446744073709551616 = x) (hk : k x) : WrapN .u64 n k := WrapN.u64m (by rw [h]; exact hk)
theorem WrapN.u64n {n : Int} {k : Int → Prop} (m : Nat) (h0 : 0 < m) (hm : m ≤ 9223372036854775808) (h : n = -(m : Int)) (hk : ∀ x : Nat, Hq (x = 18446744073709551616 - m) → k x) : WrapN .u64 n k :=
  WrapN.u64v (18446744073709551616 - m) (by omega) (hk _ ⟨rfl⟩)
set_option maxRecDepth 20000 in
theorem FInt_ct (h : Heap) (n : Int) (h1 : -9223372036854775808 ≤ n) (h2 : n ≤ 9223372036854775807) :
    Fn0 T F.word_Int [.int .i64 n] h fun v h' => ∃ s t : Sl, v = .agg #[.bool (sg (n : Rat)), s.val, t.val] ∧ IsFr h' s t (n : Rat) := by
  have e1 := nu_int n
  have e2 := sg_int n
  have e3 := den_int n
  obtain ⟨m, hm⟩ : ∃ m, m = n.natAbs := ⟨_, rfl⟩
  rw [← hm] at e1
  replace h1 : m ≤ 9223372036854775808 := by omega
  replace e1 := Hq.mk e1
  refine fn0_of_codeI ok D.word_Int rfl ?_
  by_cases hn : n < 0
  · conv => whnf
    repeat ((first | refine opsI.step ?_ | refine codeI.step ?_); conv => whnf)
    repeat' first
     | (show SeqN _ _ _ _ _ _ _; first
       | (refine SeqN.go ?_; conv => whnf))
     | (show WrapN _ _ _; first
       | (refine WrapN.u64v m (by have := hx.out; omega) ?_; conv => whnf)
       | (refine WrapN.u64n m (by omega) h1 (by omega) (fun x hx => ?_); conv => whnf))
     | ((first | refine opsI.step ?_ | refine codeI.step ?_); conv => whnf)
     | (intro (_ : Nat); conv => whnf)
     | (show cnd _ _ _; first
       | (refine cnd_lt (fun _ => ?_) (fun _ => ?_) <;> first | (exfalso; omega) | (conv => whnf)))
    refine CallN.fn rfl (Small_ct _ m (by omega)) (fun v h' hl hr => ?_)
    obtain ⟨s, rfl, hs⟩ := hr
    conv => whnf
    repeat ((first | refine opsI.step ?_ | refine codeI.step ?_); conv => whnf)
    refine CallN.fn rfl (Small_ct _ 1 (by omega)) (fun v h'' hl' hr => ?_)
    obtain ⟨t, rfl, ht⟩ := hr
    conv => whnf
    repeat ((first | refine opsI.step ?_ | refine codeI.step ?_); conv => whnf)
    repeat' first
     | ((first | refine opsI.step ?_ | refine codeI.step ?_); conv => whnf)
     | (show LdN _ _ _ _ _; first
       | (refine LdN.own 0 rfl rfl ?_; conv => whnf))
     | (show Sto _ _ _ _; first
       | (refine Sto.lit 0 rfl rfl rfl ?_; conv => whnf))
    exact RetN.all ⟨s, t, by rw [e2, decide_eq_true hn, lt_true' hn] <;> rfl, ⟨by rw [e1.out]; exact (by (iterate 30 (try first | assumption | refine IsNat.mono ?_ (by assumption))); first | done | assumption), by rw [e3]; exact (by assumption)⟩⟩
  · have hnm : n = m := by omega
    conv => whnf
    repeat ((first | refine opsI.step ?_ | refine codeI.step ?_); conv => whnf)
    repeat' first
     | (show SeqN _ _ _ _ _ _ _; first
       | (refine SeqN.go ?_; conv => whnf))
     | (show WrapN _ _ _; first
       | (refine WrapN.u64v m (by omega) ?_; conv => whnf))
     | ((first | refine opsI.step ?_ | refine codeI.step ?_); conv => whnf)
     | (intro (_ : Nat); conv => whnf)
     | (show cnd _ _ _; first
       | (refine cnd_lt (fun _ => ?_) (fun _ => ?_) <;> first | (exfalso; omega) | (conv => whnf)))
    refine CallN.fn rfl (Small_ct _ m (by omega)) (fun v h' hl hr => ?_)
    obtain ⟨s, rfl, hs⟩ := hr
    conv => whnf
    repeat ((first | refine opsI.step ?_ | refine codeI.step ?_); conv => whnf)
    refine CallN.fn rfl (Small_ct _ 1 (by omega)) (fun v h'' hl' hr => ?_)
    obtain ⟨t, rfl, ht⟩ := hr
    conv => whnf
    repeat ((first | refine opsI.step ?_ | refine codeI.step ?_); conv => whnf)
    repeat' first
     | ((first | refine opsI.step ?_ | refine codeI.step ?_); conv => whnf)
     | (show LdN _ _ _ _ _; first
       | (refine LdN.own 0 rfl rfl ?_; conv => whnf))
     | (show Sto _ _ _ _; first
       | (refine Sto.lit 0 rfl rfl rfl ?_; conv => whnf))
    exact RetN.all ⟨s, t, by rw [e2, decide_eq_false hn, lt_false' (by omega)] <;> rfl, ⟨by rw [e1.out]; exact (by (iterate 30 (try first | assumption | refine IsNat.mono ?_ (by assumption))); first | done | assumption), by rw [e3]; exact (by assumption)⟩⟩
theorem Clone_ct (h : Heap) (s : Sl) (l : List Nat) (hw : Ws .u32 h s l) (hm : l.length ≤ 4398046511104) : Fn0 T F.slices_Clone_of__of_uint32_uint32 [s.val] h fun v h' => ∃ s' : Sl, v = s'.val ∧ Ws .u32 h' s' l := by
  refine fn0_of_codeI ok D.slices_Clone_of__of_uint32_uint32 rfl ?_
  obtain ⟨a, n, c⟩ := s
  have hnil : a = none → l = [] := fun ha => by
    rcases List.eq_nil_or_concat l with e | ⟨_, _, e⟩
    · exact e
    · obtain ⟨b, off, _, _, _, hx, -⟩ := hw.mem (by rw [e]; simp)
      rw [ha] at hx; cases hx
  match a with
  | none =>
    conv => whnf
    repeat ((first | refine opsI.step ?_ | refine codeI.step ?_); conv => whnf)
    obtain rfl := hnil rfl
    exact RetN.all ⟨⟨none, 0, 0⟩, rfl, Ws.nil rfl⟩
  | some a =>
    conv => whnf
    repeat ((first | refine opsI.step ?_ | refine codeI.step ?_); conv => whnf)
    repeat' first
     | ((first | refine opsI.step ?_ | refine codeI.step ?_); conv => whnf)
     | (intro (_ : Nat); conv => whnf)
    refine App.all (s := .slice _ _ _) (t := ⟨some a, n, c⟩) rfl (GrowS.new (z := .int .u32 0) (kd := .u32) 0 rfl) hw (by simp) (by omega) (by decide) (fun v' L' g => ?_)
    conv => whnf
    repeat ((first | refine opsI.step ?_ | refine codeI.step ?_); conv => whnf)
    refine RetN.grow g fun h' s hle hv w => ⟨s, hv, ?_⟩
    simpa using w

/-- numerator and denominator of a canonical value: the denominator 1 is left out -/
structure IsRat (h : Heap) (a b : Sl) (q : Rat) : Prop where
  num : IsNat h a (nu q)
  den : IsNat h b (if q.den = 1 then 0 else q.den)
/-- what is handed out: the number, or the error of a large one -/
def outR (q : Rat) : Rat × Int := if fits q then (q, 0) else (0, 1)
/-- a value with its error -/
def Res (h : Heap) (v : Value) (x : Rat × Int) : Prop := ∃ a b : Sl, v = .tuple #[.agg #[.bool (sg x.1), a.val, b.val], .int .i64 x.2] ∧ IsRat h a b x.1
theorem IsRat.zero (h : Heap) : IsRat h ⟨none, 0, 0⟩ ⟨none, 0, 0⟩ 0 := ⟨by rw [nu_zero]; exact IsNat.nil rfl, by rw [if_pos (by rfl)]; exact IsNat.nil rfl⟩
theorem IsRat.mono {h h' : Heap} {a b : Sl} {q : Rat} (w : IsRat h a b q) (hl : h.le h') : IsRat h' a b q := ⟨w.num.mono hl, w.den.mono hl⟩

theorem Res.err (h : Heap) (e : Int) : Res h (.tuple #[.agg #[.bool false, .slice none 0 0, .slice none 0 0], .int .i64 e]) (0, e) :=
  ⟨⟨none, 0, 0⟩, ⟨none, 0, 0⟩, by rw [show sg (0, e).1 = false from sg_zero] <;> rfl, IsRat.zero _⟩
set_option maxRecDepth 20000 in
theorem Give_ct (h : Heap) (a b : Sl) (q : Rat) (hq : IsFr h a b q) (hs : Sz 1073741824 q) :
    Fn0 T F.word_Frac_Give [.agg #[.bool (sg q), a.val, b.val]] h fun v h' => Res h' v (outR q) := by
  have i1 := hq.num
  have i2 := hq.den
  have l1 := hs.num
  have l2 := hs.den
  have z1 : Sz 1099511627776 q := hs.mono (by omega)
  have f1 : fits q → outR q = (q, 0) := fun hh => if_pos hh
  have f2 : ¬ fits q → outR q = (0, 1) := fun hh => if_neg hh
  refine fn0_of_codeI ok D.word_Frac_Give rfl ?_
  conv => whnf
  repeat ((first | refine opsI.step ?_ | refine codeI.step ?_); conv => whnf)
  repeat' first
   | (show SeqN _ _ _ _ _ _ _; first
     | (refine SeqN.go ?_; conv => whnf))
   | (show CallN _ _ _ _ _ _; first
     | (refine CallN.quiet rfl (Fits_ct _ _ _ _ (by assumption) (by assumption)) ?_; conv => whnf)
     | (refine CallN.quiet rfl (One_ct _ _ _ (by (iterate 30 (try first | assumption | refine Ws.mono ?_ (by assumption))); first | done | assumption) (by omega)) ?_; conv => whnf)
     | (refine CallN.fn rfl (Clone_ct _ _ (dg 4294967296 (nu q)) (by (iterate 30 (try first | assumption | refine IsNat.mono ?_ (by assumption))); first | done | assumption) (by unfold ln at *; omega)) (fun v h' hl hr => ?_); obtain ⟨s', rfl, hs'⟩ := hr; conv => whnf)
     | (refine CallN.fn rfl (Clone_ct _ _ (dg 4294967296 q.den) (by (iterate 30 (try first | assumption | refine IsNat.mono ?_ (by assumption))); first | done | assumption) (by unfold ln at *; omega)) (fun v h' hl hr => ?_); obtain ⟨s', rfl, hs'⟩ := hr; conv => whnf))
   | ((first | refine opsI.step ?_ | refine codeI.step ?_); conv => whnf)
   | (refine ⟨fun _ => HasLe.of_le (by assumption), ?_⟩; conv => whnf)
   | (refine ⟨fun _ => HasLe.cons _, ?_⟩; conv => whnf)
   | (refine ⟨fun hst => (by cases (show true = false from hst)), ?_⟩; conv => whnf)
   | (intro (_ : Nat); conv => whnf)
   | (show cnd _ _ _; first
     | (refine cnd_not ?_)
     | (refine cnd_dec (fun _ => ?_) (fun _ => ?_) <;> first | (exfalso; omega) | (conv => whnf)))
   | (show LdN _ _ _ _ _; first
     | (refine LdN.own 0 rfl rfl ?_; conv => whnf)
     | (refine LdN.own 1 rfl rfl ?_; conv => whnf))
   | (show Ld _ _ _ _; first
     | (refine Ld.own 1 rfl rfl ?_; conv => whnf)
     | (refine Ld.own 2 rfl rfl ?_; conv => whnf))
   | (show Sto _ _ _ _; first
     | (refine Sto.lit 0 rfl rfl rfl ?_; conv => whnf)
     | (refine Sto.lit 1 rfl rfl rfl ?_; conv => whnf))
   | (show DrawN _ _ _ _ _ _; first
     | (refine DrawN.run (by decide +kernel) ?_; conv => whnf))
   | (show Both _ _; first
     | (refine Both.mk ?_ ?_ <;> (conv => whnf)))
  all_goals first
    | (rw [f2 (by assumption)]
       exact RetN.all (Res.err _ _))
    | (rw [f1 (by assumption)]
       first
         | exact RetN.all ⟨_, ⟨none, 0, 0⟩, rfl, (show IsRat _ _ _ q from ⟨(by assumption), by rw [if_pos (by assumption)]; exact IsNat.nil rfl⟩)⟩
         | exact RetN.all ⟨_, _, rfl, (show IsRat _ _ _ q from ⟨(by (iterate 30 (try first | assumption | refine IsNat.mono ?_ (by assumption))); first | done | assumption), by rw [if_neg (by assumption)]; exact (by assumption)⟩)⟩)

/-- the number that a value of any kind denotes -/
def ratOf (neg : Bool) (l m : List Nat) : Rat := mkQ neg (evl 4294967296 l) (if evl 4294967296 m = 0 then 1 else evl 4294967296 m)
/-- whether it is not large -/
def okR (neg : Bool) (l m : List Nat) : Prop := ln 4294967296 (evl 4294967296 l) ≤ 256 ∧ ln 4294967296 (evl 4294967296 m) ≤ 256 ∧ fits (ratOf neg l m)
instance (neg : Bool) (l m : List Nat) : Decidable (okR neg l m) := by unfold okR; exact inferInstance
theorem okR.sz {neg : Bool} {l m : List Nat} (h : okR neg l m) : Sz 64 (ratOf neg l m) := ⟨h.2.2.1, h.2.2.2⟩
/-- a value as it comes in -/
structure IsVal (h : Heap) (a b : Sl) (l m : List Nat) : Prop where
  num : Ws .u32 h a l
  den : Ws .u32 h b m
  ln : ∀ x ∈ l, x < 4294967296
  lm : ∀ x ∈ m, x < 4294967296
  sn : l.length ≤ 1073741824
  sm : m.length ≤ 1073741824
theorem IsVal.mono {h h' : Heap} {a b : Sl} {l m : List Nat} (w : IsVal h a b l m) (hl : h.le h') : IsVal h' a b l m := ⟨w.num.mono hl, w.den.mono hl, w.ln, w.lm, w.sn, w.sm⟩

end Go.Proofs.YtdemgbmndijkkaaGreatDoor
/- Contracts of package word's functions on rational numbers, fourth part: reading a value; powers. -/
namespace Go.Proofs.YtdemgbmndijkkaaGreatDoor
open Go Go.Vc Go.Dig

theorem dec_congr {p q : Prop} [Decidable p] [Decidable q] (h : p ↔ q) : dec p = dec q := by rw [dec_eq, dec_eq]; exact decide_eq_decide.2 h
set_option maxRecDepth 20000 in
set_option maxHeartbeats 400000 in
theorem Read_ct (h : Heap) (tb : Tb h) (neg : Bool) (a b : Sl) (l m : List Nat) (hv : IsVal h a b l m) :
    Fn0 T F.word_Read [.agg #[.bool neg, a.val, b.val]] h fun v h' => ∃ (s : Bool) (c d : Sl), v = .tuple #[.agg #[.bool s, c.val, d.val], .bool (dec (okR neg l m))] ∧ (okR neg l m → s = sg (ratOf neg l m) ∧ IsFr h' c d (ratOf neg l m)) := by
  have i1 := hv.num
  have i2 := hv.den
  have l1 := hv.ln
  have l2 := hv.lm
  have l3 := hv.sn
  have l4 := hv.sm
  obtain ⟨x, hx⟩ : ∃ x, x = evl 4294967296 l := ⟨_, rfl⟩
  obtain ⟨y, hy⟩ : ∃ y, y = evl 4294967296 m := ⟨_, rfl⟩
  obtain ⟨q, hq⟩ : ∃ q, q = ratOf neg l m := ⟨_, rfl⟩
  have hok : okR neg l m ↔ ln 4294967296 x ≤ 256 ∧ ln 4294967296 y ≤ 256 ∧ fits q := by unfold okR; rw [← hx, ← hy, ← hq]
  have hle := mkQ_le neg (m := x) (n := if y = 0 then 1 else y) (by split <;> omega)
  have hqq : q = mkQ neg x (if y = 0 then 1 else y) := by rw [hq, ratOf, ← hx, ← hy]
  rw [← hqq] at hle
  have p6 := ln_one 4294967296 two_le_B
  have hz1 := ln_le_of_le hle.1
  have hz2 := ln_le_of_le hle.2
  have hq1 : y = 0 → mkQ neg x 1 = q := fun h0 => by rw [hqq, if_pos h0]
  have hq2 : y ≠ 0 → mkQ neg x y = q := fun h0 => by rw [hqq, if_neg h0]
  have hsz : ln 4294967296 x ≤ 256 → ln 4294967296 y ≤ 256 → Sz 1099511627776 q := fun a1 a2 => ⟨by omega, by
    split at hz2 <;> omega⟩
  replace hok := Hq.mk hok
  replace hle := Hq.mk hle
  replace hz2 := Hq.mk hz2
  replace hqq := Hq.mk hqq
  rw [← hq]
  refine fn0_of_codeI ok D.word_Read rfl ?_
  conv => whnf
  repeat ((first | refine opsI.step ?_ | refine codeI.step ?_); conv => whnf)
  repeat' first
   | (show SeqN _ _ _ _ _ _ _; first
     | (refine SeqN.go ?_; conv => whnf))
   | (show CallN _ _ _ _ _ _; first
     | (refine CallN.fn rfl (Of_ct _ _ l (by (iterate 30 (try first | assumption | refine Ws.mono ?_ (by assumption))); first | done | assumption) l1 (by omega)) (fun v h' hl hr => ?_); rw [← hx] at hr; obtain ⟨s', rfl, hs'⟩ := hr; have hxl := hs'.len; conv => whnf)
     | (refine CallN.fn rfl (Of_ct _ _ m (by (iterate 30 (try first | assumption | refine Ws.mono ?_ (by assumption))); first | done | assumption) l2 (by omega)) (fun v h' hl hr => ?_); rw [← hy] at hr; obtain ⟨t', rfl, ht'⟩ := hr; have hyl := ht'.len; conv => whnf)
     | (refine CallN.quiet rfl (Zero_ct _ _ _ (by assumption) (by omega)) ?_; conv => whnf)
     | (refine CallN.fn rfl (Small_ct _ 1 (by omega)) (fun v h' hl hr => ?_); obtain ⟨s', rfl, hs'⟩ := hr; conv => whnf)
     | (refine CallN.fn rfl (Reduce_ct _ (by (iterate 30 (try first | assumption | refine Tb.mono ?_ (by assumption))); first | done | assumption) _ _ _ x 1 (by (iterate 30 (try first | assumption | refine IsNat.mono ?_ (by assumption))); first | done | assumption) (by (iterate 30 (try first | assumption | refine IsNat.mono ?_ (by assumption))); first | done | assumption) (by omega) (by omega) (by decide)) (fun v h' hl hr => ?_); rw [hq1 (by assumption)] at hr; obtain ⟨a', b', rfl, hq'⟩ := hr; conv => whnf)
     | (refine CallN.fn rfl (Reduce_ct _ (by (iterate 30 (try first | assumption | refine Tb.mono ?_ (by assumption))); first | done | assumption) _ _ _ x y (by (iterate 30 (try first | assumption | refine IsNat.mono ?_ (by assumption))); first | done | assumption) (by assumption) (by omega) (by omega) (by assumption)) (fun v h' hl hr => ?_); rw [hq2 (by assumption)] at hr; obtain ⟨a', b', rfl, hq'⟩ := hr; conv => whnf)
     | (refine CallN.quiet rfl (Fits_ct _ _ _ q (by assumption) (hsz (by omega) (by omega))) ?_; conv => whnf))
   | ((first | refine opsI.step ?_ | refine codeI.step ?_); conv => whnf)
   | (refine ⟨fun _ => HasLe.of_le (Heap.le_refl _), ?_⟩; conv => whnf)
   | (refine ⟨fun _ => HasLe.of_le (by assumption), ?_⟩; conv => whnf)
   | (refine ⟨fun hst => (by cases (show true = false from hst)), ?_⟩; conv => whnf)
   | (intro (_ : Nat); conv => whnf)
   | (show cnd _ _ _; first
     | (refine cnd_lt (fun _ => ?_) (fun _ => ?_) <;> first | (exfalso; omega) | (conv => whnf))
     | (refine cnd_dec (fun _ => ?_) (fun _ => ?_) <;> first | (exfalso; omega) | (conv => whnf)))
   | (show LdN _ _ _ _ _; first
     | (refine LdN.own 0 rfl rfl ?_; conv => whnf)
     | (refine LdN.own 1 rfl rfl ?_; conv => whnf))
   | (show Ld _ _ _ _; first
     | (refine Ld.own 1 rfl rfl ?_; conv => whnf))
   | (show Sto _ _ _ _; first
     | (refine Sto.lit 0 rfl rfl rfl ?_; conv => whnf)
     | (refine Sto.lit 1 rfl rfl rfl ?_; conv => whnf))
   | (show DrawN _ _ _ _ _ _; first
     | (refine DrawN.run (by decide +kernel) ?_; conv => whnf))
  · exact RetN.all ⟨false, ⟨none, 0, 0⟩, ⟨none, 0, 0⟩, by rw [dec_false (fun hh => by have := (hok.out.1 hh).1; omega)] <;> rfl, fun hh => by have := (hok.out.1 hh).1; omega⟩
  · exact RetN.all ⟨false, ⟨none, 0, 0⟩, ⟨none, 0, 0⟩, by rw [dec_false (fun hh => by have := (hok.out.1 hh).2.1; omega)] <;> rfl, fun hh => by have := (hok.out.1 hh).2.1; omega⟩
  all_goals exact RetN.all ⟨_, _, _, by rw [dec_congr (p := okR neg l m) (q := fits q) ⟨fun hh => (hok.out.1 hh).2.2, fun hh => hok.out.2 ⟨by omega, by omega, hh⟩⟩] <;> rfl, fun _ => ⟨rfl, (by assumption)⟩⟩

theorem pow_half (a k : Nat) : a ^ k = (if k % 2 = 1 then a else 1) * (a * a) ^ (k / 2) := by
  have e : k = 2 * (k / 2) + k % 2 := (Nat.div_add_mod k 2).symm
  conv => lhs; rw [e, Nat.pow_add, Nat.pow_mul, Nat.pow_two]
  rcases Nat.mod_two_eq_zero_or_one k with h | h <;> rw [h] <;> simp [Nat.mul_comm]
set_option maxRecDepth 20000 in
set_option maxHeartbeats 400000 in
theorem Pow_ct (h : Heap) (a : Sl) (A N : Nat) (ha : IsNat h a A) (hb : N * ln 4294967296 A ≤ 8589934590) (la : ln 4294967296 A ≤ 8589934592) (hN : N ≤ 65536) :
    Fn0 T F.word_Nat_Pow [a.val, .int .i64 N] h fun v h' => ∃ s : Sl, v = s.val ∧ IsNat h' s (A ^ N) := by
  refine fn0_of_codeI ok D.word_Nat_Pow rfl ?_
  have p6 := ln_one 4294967296 two_le_B
  conv => whnf
  repeat ((first | refine opsI.step ?_ | refine codeI.step ?_); conv => whnf)
  repeat' first
   | (show CallN _ _ _ _ _ _; first
     | (refine CallN.fn rfl (Small_ct _ 1 (by omega)) (fun v h' hl hr => ?_); obtain ⟨s', rfl, hs'⟩ := hr; conv => whnf))
   | ((first | refine opsI.step ?_ | refine codeI.step ?_); conv => whnf)
  refine LoopN.of (fun r ρ h' L => ∃ (a o : Sl) (x y : Nat), L = [] ∧ h.le h' ∧ rd ρ 0 = a.val ∧ rd ρ 1 = .int .i64 r ∧ rd ρ 5 = o.val ∧ IsNat h' a x ∧ IsNat h' o y ∧ ln 4294967296 x ≤ 8589934592 ∧ r ≤ 65536 ∧ Hq (ln 4294967296 y + r * ln 4294967296 x ≤ 1 + N * ln 4294967296 A) ∧ Hq (y * x ^ r = A ^ N)) N
    ⟨a, s', A, 1, rfl, hl, rfl, rfl, rfl, (by (iterate 30 (try first | assumption | refine IsNat.mono ?_ (by assumption))); first | done | assumption), (by assumption), la, hN, ⟨by rw [p6]; exact Nat.le_refl _⟩, ⟨by rw [Nat.one_mul]⟩⟩ ?_
  conv => whnf
  repeat intro _
  rename_i r h2 L2 hI
  obtain ⟨a, o, x, y, rfl, hle, e0, e1, e2, hx, hy, lx, hr, hsz, heq⟩ := hI
  conv at e0 => lhs; whnf
  subst e0
  conv at e1 => lhs; whnf
  subst e1
  conv at e2 => lhs; whnf
  subst e2
  by_cases h0 : r = 0
  · subst h0
    conv => whnf
    repeat ((first | refine opsI.step ?_ | refine codeI.step ?_); conv => whnf)
    repeat' first
     | ((first | refine opsI.step ?_ | refine codeI.step ?_); conv => whnf)
     | (show cnd _ _ _; first
       | (refine cnd_lt (fun _ => ?_) (fun _ => ?_) <;> first | (exfalso; omega) | (conv => whnf)))
    have e := heq.out
    rw [Nat.pow_zero, Nat.mul_one] at e
    exact RetN.all ⟨o, rfl, by rw [← e]; exact hy⟩
  · have l1 : ln 4294967296 y ≤ 1 + N * ln 4294967296 A := by have := hsz.out; omega
    have l2 := ln_mul two_le_B y x
    have l3 := ln_mul two_le_B x x
    have l4 : 1 * ln 4294967296 x ≤ r * ln 4294967296 x := Nat.mul_le_mul_right _ (by omega)
    have hp := Hq.mk (pow_half x r)
    have hq : Hq (ln 4294967296 y + (r % 2) * ln 4294967296 x + (r / 2) * (2 * ln 4294967296 x) ≤ 1 + N * ln 4294967296 A) := ⟨by
      have e := hsz.out
      have e2 : r * ln 4294967296 x = (2 * (r / 2) + r % 2) * ln 4294967296 x := by rw [Nat.div_add_mod]
      rw [Nat.add_mul] at e2
      have e3 : 2 * (r / 2) * ln 4294967296 x = r / 2 * (2 * ln 4294967296 x) := by rw [Nat.mul_comm 2, Nat.mul_assoc]
      omega⟩
    have l5 : ln 4294967296 x ≤ 1 + N * ln 4294967296 A := by have := hsz.out; omega
    replace l4 := Hq.mk l4
    conv => whnf
    repeat ((first | refine opsI.step ?_ | refine codeI.step ?_); conv => whnf)
    repeat' first
     | (show SeqN _ _ _ _ _ _ _; first
       | (refine SeqN.go ?_; conv => whnf))
     | (show BitN _ _ _ _ _; first
       | (refine BitN.low1 r rfl (by omega) ?_; conv => whnf))
     | (show ShrN _ _ _ _; first
       | (refine ShrN.of 1 (by decide) (by omega) ?_; conv => whnf))
     | (show CallN _ _ _ _ _ _; first
       | (refine CallN.fn rfl (Mul_ct _ _ _ _ _ (by (iterate 30 (try first | assumption | refine Ws.mono ?_ (by assumption))); first | done | assumption) (by (iterate 30 (try first | assumption | refine Ws.mono ?_ (by assumption))); first | done | assumption) (by omega) (by omega)) (fun v h' hl hr => ?_); obtain ⟨s', rfl, hs'⟩ := hr; conv => whnf))
     | ((first | refine opsI.step ?_ | refine codeI.step ?_); conv => whnf)
     | (show cnd _ _ _; first
       | (refine cnd_lt (fun _ => ?_) (fun _ => ?_) <;> first | (exfalso; omega) | (conv => whnf))
       | (refine cnd_eq (fun _ => ?_) (fun _ => ?_) <;> first | (exfalso; omega) | (conv => whnf)))
    · exact ⟨rfl, r / 2, by omega, _, _, x * x, y * x, rfl, (by (iterate 30 (try first | assumption | refine Heap.le_trans ?_ (by assumption))); first | done | assumption), rfl, vi (by omega), rfl, (by assumption), (by (iterate 30 (try first | assumption | refine IsNat.mono ?_ (by assumption))); first | done | assumption), by
        have := hq.out
        have h1 : 1 * (2 * ln 4294967296 x) ≤ r / 2 * (2 * ln 4294967296 x) := Nat.mul_le_mul_right _ (by omega)
        omega, by omega, ⟨by
        have := hq.out
        have h1 : r / 2 * ln 4294967296 (x * x) ≤ r / 2 * (2 * ln 4294967296 x) := Nat.mul_le_mul_left _ (by omega)
        rw [show r % 2 = 1 by omega, Nat.one_mul] at this
        omega⟩, ⟨by rw [← heq.out, hp.out, if_pos (by omega), Nat.mul_assoc]⟩⟩
    · exact ⟨rfl, r / 2, by omega, a, _, x, y * x, rfl, (by (iterate 30 (try first | assumption | refine Heap.le_trans ?_ (by assumption))); first | done | assumption), rfl, vi (by omega), rfl, (by (iterate 30 (try first | assumption | refine IsNat.mono ?_ (by assumption))); first | done | assumption), (by assumption), lx, by omega, ⟨by
        have := hq.out
        rw [show r % 2 = 1 by omega, Nat.one_mul] at this
        rw [show r / 2 = 0 by omega, Nat.zero_mul] at this ⊢
        omega⟩, ⟨by rw [← heq.out, show r / 2 = 0 by omega, show r = 1 by omega, Nat.pow_zero, Nat.mul_one, Nat.pow_one]⟩⟩
    · exact ⟨rfl, r / 2, by omega, _, o, x * x, y, rfl, (by (iterate 30 (try first | assumption | refine Heap.le_trans ?_ (by assumption))); first | done | assumption), rfl, vi (by omega), rfl, (by assumption), (by (iterate 30 (try first | assumption | refine IsNat.mono ?_ (by assumption))); first | done | assumption), by
        have := hq.out
        have h1 : 1 * (2 * ln 4294967296 x) ≤ r / 2 * (2 * ln 4294967296 x) := Nat.mul_le_mul_right _ (by omega)
        omega, by omega, ⟨by
        have := hq.out
        have h1 : r / 2 * ln 4294967296 (x * x) ≤ r / 2 * (2 * ln 4294967296 x) := Nat.mul_le_mul_left _ (by omega)
        omega⟩, ⟨by rw [← heq.out, hp.out, if_neg (by omega), Nat.one_mul]⟩⟩

end Go.Proofs.YtdemgbmndijkkaaGreatDoor
/- Contracts of package number's functions, first part: operations on two numbers; sums and differences. -/
namespace Go.Proofs.YtdemgbmndijkkaaGreatDoor
open Go Go.Vc Go.Dig

theorem Sz.add {k l : Nat} {q r : Rat} (a : Sz k q) (b : Sz l r) : Sz (k + l + 1) (q + r) := by
  have h := add_le q r
  have p1 := ln_mul two_le_B (nu q) r.den
  have p2 := ln_mul two_le_B (nu r) q.den
  have p3 := ln_mul two_le_B q.den r.den
  have p4 := ln_add two_le_B (nu q * r.den) (nu r * q.den)
  have a1 := a.num
  have a2 := a.den
  have b1 := b.num
  have b2 := b.den
  exact ⟨Nat.le_trans (ln_le_of_le h.1) (by omega), Nat.le_trans (ln_le_of_le h.2) (by omega)⟩
theorem Sz.mul {k l : Nat} {q r : Rat} (a : Sz k q) (b : Sz l r) : Sz (k + l) (q * r) := by
  have h := mul_le q r
  have p1 := ln_mul two_le_B (nu q) (nu r)
  have p3 := ln_mul two_le_B q.den r.den
  have a1 := a.num
  have a2 := a.den
  have b1 := b.num
  have b2 := b.den
  exact ⟨Nat.le_trans (ln_le_of_le h.1) (by omega), Nat.le_trans (ln_le_of_le h.2) (by omega)⟩
theorem Sz.neg {k : Nat} {q : Rat} (s : Sz k q) : Sz k (-q) := ⟨by rw [nu_neg]; exact s.num, by rw [Rat.neg_den]; exact s.den⟩

/-- what an operation on two values hands out -/
def spec2 (op : Rat → Rat → Rat) (n1 : Bool) (l1 m1 : List Nat) (n2 : Bool) (l2 m2 : List Nat) : Rat × Int :=
  if okR n1 l1 m1 ∧ okR n2 l2 m2 then outR (op (ratOf n1 l1 m1) (ratOf n2 l2 m2)) else (0, 1)

/-- a function on two numbers -/
def Op2 (f : FuncId) (op : Rat → Rat → Rat) : Prop := ∀ (h : Heap) (a b c d : Sl) (q r : Rat), Tb h → IsFr h a b q → IsFr h c d r → Sz 64 q → Sz 64 r →
  Fn0 T f [.agg #[.bool (sg q), a.val, b.val], .agg #[.bool (sg r), c.val, d.val]] h fun v h' => ∃ s t : Sl, v = .agg #[.bool (sg (op q r)), s.val, t.val] ∧ IsFr h' s t (op q r)

set_option maxRecDepth 20000 in
set_option maxHeartbeats 1000000 in
theorem two_ct (h : Heap) (tb : Tb h) (n1 : Bool) (a1 b1 : Sl) (l1 m1 : List Nat) (n2 : Bool) (a2 b2 : Sl) (l2 m2 : List Nat) (hv1 : IsVal h a1 b1 l1 m1) (hv2 : IsVal h a2 b2 l2 m2)
    (f : FuncId) (op : Rat → Rat → Rat) (hf : T.fn f = true) (hop : Op2 f op) (hsz : ∀ q r, Sz 64 q → Sz 64 r → Sz 1073741824 (op q r)) :
    Fn0 T F.number_two [.agg #[.bool n1, a1.val, b1.val], .agg #[.bool n2, a2.val, b2.val], .func (.func f) #[] #[]] h fun v h' => Res h' v (spec2 op n1 l1 m1 n2 l2 m2) := by
  have f1 : okR n1 l1 m1 → okR n2 l2 m2 → spec2 op n1 l1 m1 n2 l2 m2 = outR (op (ratOf n1 l1 m1) (ratOf n2 l2 m2)) := fun x y => if_pos ⟨x, y⟩
  have f2 : ¬ okR n1 l1 m1 → spec2 op n1 l1 m1 n2 l2 m2 = (0, 1) := fun x => if_neg fun y => x y.1
  have f3 : ¬ okR n2 l2 m2 → spec2 op n1 l1 m1 n2 l2 m2 = (0, 1) := fun x => if_neg fun y => x y.2
  refine fn0_of_codeI ok D.number_two rfl ?_
  conv => whnf
  repeat ((first | refine opsI.step ?_ | refine codeI.step ?_); conv => whnf)
  repeat' first
   | (show CallN _ _ _ _ _ _; first
     | (refine CallN.fn rfl (Read_ct _ (by (iterate 30 (try first | assumption | refine Tb.mono ?_ (by assumption))); first | done | assumption) _ _ _ l1 m1 (by (iterate 30 (try first | assumption | refine IsVal.mono ?_ (by assumption))); first | done | assumption)) (fun v h' hle1 hr => ?_); obtain ⟨s1, c1, d1, rfl, hok1⟩ := hr; conv => whnf)
     | (refine CallN.fn rfl (Read_ct _ (by (iterate 30 (try first | assumption | refine Tb.mono ?_ (by assumption))); first | done | assumption) _ _ _ l2 m2 (by (iterate 30 (try first | assumption | refine IsVal.mono ?_ (by assumption))); first | done | assumption)) (fun v h' hle2 hr => ?_); obtain ⟨s2, c2, d2, rfl, hok2⟩ := hr; conv => whnf))
   | ((first | refine opsI.step ?_ | refine codeI.step ?_); conv => whnf)
   | (intro (_ : Nat); conv => whnf)
   | (show cnd _ _ _; first
     | (refine cnd_not ?_)
     | (refine cnd_dec (fun _ => ?_) (fun _ => ?_) <;> first | (exfalso; omega) | (conv => whnf)))
   | (show LdN _ _ _ _ _; first
     | (refine LdN.own 0 rfl rfl ?_; conv => whnf)
     | (refine LdN.own 1 rfl rfl ?_; conv => whnf)
     | (refine LdN.own 2 rfl rfl ?_; conv => whnf))
   | (show Sto _ _ _ _; first
     | (refine Sto.lit 0 rfl rfl rfl ?_; conv => whnf)
     | (refine Sto.lit 2 rfl rfl rfl ?_; conv => whnf))
  · obtain ⟨rfl, g1⟩ := hok1 (by assumption)
    obtain ⟨rfl, g2⟩ := hok2 (by assumption)
    have z1 := okR.sz (show okR n1 l1 m1 by assumption)
    have z2 := okR.sz (show okR n2 l2 m2 by assumption)
    have z3 := hsz _ _ z1 z2
    rw [f1 (by assumption) (by assumption)]
    refine CallN.fn hf (hop _ _ _ _ _ _ _ (by (iterate 30 (try first | assumption | refine Tb.mono ?_ (by assumption))); first | done | assumption) (by (iterate 30 (try first | assumption | refine IsFr.mono ?_ (by assumption))); first | done | assumption) (by assumption) z1 z2) (fun v h3 hle3 hr => ?_)
    obtain ⟨s, t, rfl, hq⟩ := hr
    conv => whnf
    repeat ((first | refine opsI.step ?_ | refine codeI.step ?_); conv => whnf)
    repeat' first
     | (show CallN _ _ _ _ _ _; first
       | (refine CallN.fn rfl (Give_ct _ _ _ _ (by assumption) z3) (fun v h' hl hr => ?_); obtain ⟨e1, e2, rfl, hq'⟩ := hr; conv => whnf))
     | ((first | refine opsI.step ?_ | refine codeI.step ?_); conv => whnf)
     | (show LdN _ _ _ _ _; first
       | (refine LdN.own 2 rfl rfl ?_; conv => whnf))
     | (show Sto _ _ _ _; first
       | (refine Sto.lit 2 rfl rfl rfl ?_; conv => whnf))
    exact RetN.all ⟨_, _, rfl, (by assumption)⟩
  · rw [f3 (by assumption)]; exact RetN.all (Res.err _ _)
  · rw [f2 (by assumption)]; exact RetN.all (Res.err _ _)

theorem Op2.add : Op2 F.word_Frac_Add (· + ·) := fun h a b c d q r tb h1 h2 z1 z2 => FAdd_ct h tb a b c d q r h1 h2 (z1.mono (by decide)) (z2.mono (by decide))
theorem Op2.mul : Op2 F.word_Frac_Mul (· * ·) := fun h a b c d q r tb h1 h2 z1 z2 => FMul_ct h tb a b c d q r h1 h2 (z1.mono (by decide)) (z2.mono (by decide))
theorem Op2.sub : Op2 F.number_Sub_1 (· - ·) := fun h a b c d q r tb h1 h2 z1 z2 => by
  have y1 : Sz 1073741824 q := z1.mono (by decide)
  have y2 : Sz 1073741824 (-r) := (Sz.neg z2).mono (by decide)
  have y3 : Sz 1099511627776 r := z2.mono (by decide)
  have h3 := IsFr.neg h2
  have e : q - r = q + -r := Rat.sub_eq_add_neg q r
  refine fn0_of_codeI ok D.number_Sub_1 rfl ?_
  conv => whnf
  repeat ((first | refine opsI.step ?_ | refine codeI.step ?_); conv => whnf)
  repeat' first
   | (show CallN _ _ _ _ _ _; first
     | (refine CallN.quiet rfl (Opposite_ct _ _ _ _ (by assumption) y3) ?_; conv => whnf)
     | (refine CallN.fn rfl (FAdd_ct _ (by assumption) _ _ _ _ _ _ (by assumption) (by assumption) y1 y2) (fun v h' hl hr => ?_); obtain ⟨e1, e2, rfl, hq'⟩ := hr; conv => whnf))
   | ((first | refine opsI.step ?_ | refine codeI.step ?_); conv => whnf)
   | (refine ⟨fun _ => HasLe.of_le (Heap.le_refl _), ?_⟩; conv => whnf)
   | (refine ⟨fun _ => HasLe.of_le (by assumption), ?_⟩; conv => whnf)
   | (refine ⟨fun hst => (by cases (show true = false from hst)), ?_⟩; conv => whnf)
   | (intro (_ : Nat); conv => whnf)
   | (show LdN _ _ _ _ _; first
     | (refine LdN.own 0 rfl rfl ?_; conv => whnf)
     | (refine LdN.own 1 rfl rfl ?_; conv => whnf)
     | (refine LdN.own 2 rfl rfl ?_; conv => whnf))
   | (show Sto _ _ _ _; first
     | (refine Sto.lit 0 rfl rfl rfl ?_; conv => whnf))
   | (show DrawN _ _ _ _ _ _; first
     | (refine DrawN.run (by decide +kernel) ?_; conv => whnf))
  refine RetN.all ⟨e1, e2, ?_, ?_⟩
  · show _ = Value.agg #[.bool (sg (q - r)), _, _]
    rw [e] <;> rfl
  · show IsFr _ _ _ (q - r)
    rw [e]; exact (by assumption)

/-- half the sum -/
def half (q r : Rat) : Rat := (q + r) / ((2 : Int) : Rat)
theorem Sz.mid {k l : Nat} {q r : Rat} (a : Sz k q) (b : Sz l r) : Sz (k + l + 4) (half q r) := by
  have s := Sz.add a b
  have h := mkQ_le (sg (q + r)) (m := nu (q + r)) (n := (q + r).den * 2) (by have := (q + r).den_nz; omega)
  have p1 := ln_mul two_le_B (q + r).den 2
  have p2 : ln 4294967296 2 ≤ 2 := by have := ln_two_pow 1; exact this
  have a1 := s.num
  have a2 := s.den
  unfold half
  rw [half_q]
  exact ⟨Nat.le_trans (ln_le_of_le h.1) (by omega), Nat.le_trans (ln_le_of_le h.2) (by omega)⟩

/-- the arguments of a function of two values -/
structure Args2 (h : Heap) (a1 b1 : Sl) (l1 m1 : List Nat) (a2 b2 : Sl) (l2 m2 : List Nat) : Prop where
  tb : Tb h
  x : IsVal h a1 b1 l1 m1
  y : IsVal h a2 b2 l2 m2
theorem NAdd_ct (h : Heap) (n1 : Bool) (a1 b1 : Sl) (l1 m1 : List Nat) (n2 : Bool) (a2 b2 : Sl) (l2 m2 : List Nat) (tb : Tb h) (hv1 : IsVal h a1 b1 l1 m1) (hv2 : IsVal h a2 b2 l2 m2) :
    Fn0 T F.number_Add [.agg #[.bool n1, a1.val, b1.val], .agg #[.bool n2, a2.val, b2.val]] h fun v h' => Res h' v (spec2 (· + ·) n1 l1 m1 n2 l2 m2) := by
  refine fn0_of_codeI ok D.number_Add rfl ?_
  conv => whnf
  repeat ((first | refine opsI.step ?_ | refine codeI.step ?_); conv => whnf)
  repeat' first
   | (show CallN _ _ _ _ _ _; first
     | (refine CallN.fn rfl (two_ct _ (by assumption) _ _ _ _ _ _ _ _ _ _ (by assumption) (by assumption) _ _ rfl Op2.add (fun q r a b => (Sz.add a b).mono (by decide))) (fun v h' hl hr => ?_); obtain ⟨e1, e2, rfl, hq'⟩ := hr; conv => whnf))
   | ((first | refine opsI.step ?_ | refine codeI.step ?_); conv => whnf)
   | (intro (_ : Nat); conv => whnf)
   | (show LdN _ _ _ _ _; first
     | (refine LdN.own 0 rfl rfl ?_; conv => whnf)
     | (refine LdN.own 1 rfl rfl ?_; conv => whnf)
     | (refine LdN.own 2 rfl rfl ?_; conv => whnf))
   | (show Sto _ _ _ _; first
     | (refine Sto.lit 0 rfl rfl rfl ?_; conv => whnf))
  exact RetN.all ⟨_, _, rfl, (by assumption)⟩
theorem NSub_ct (h : Heap) (n1 : Bool) (a1 b1 : Sl) (l1 m1 : List Nat) (n2 : Bool) (a2 b2 : Sl) (l2 m2 : List Nat) (tb : Tb h) (hv1 : IsVal h a1 b1 l1 m1) (hv2 : IsVal h a2 b2 l2 m2) :
    Fn0 T F.number_Sub [.agg #[.bool n1, a1.val, b1.val], .agg #[.bool n2, a2.val, b2.val]] h fun v h' => Res h' v (spec2 (· - ·) n1 l1 m1 n2 l2 m2) := by
  refine fn0_of_codeI ok D.number_Sub rfl ?_
  conv => whnf
  repeat ((first | refine opsI.step ?_ | refine codeI.step ?_); conv => whnf)
  repeat' first
   | (show CallN _ _ _ _ _ _; first
     | (refine CallN.fn rfl (two_ct _ (by assumption) _ _ _ _ _ _ _ _ _ _ (by assumption) (by assumption) _ _ rfl Op2.sub (fun q r a b => by rw [Rat.sub_eq_add_neg]; exact (Sz.add a (Sz.neg b)).mono (by decide))) (fun v h' hl hr => ?_); obtain ⟨e1, e2, rfl, hq'⟩ := hr; conv => whnf))
   | ((first | refine opsI.step ?_ | refine codeI.step ?_); conv => whnf)
   | (intro (_ : Nat); conv => whnf)
   | (show LdN _ _ _ _ _; first
     | (refine LdN.own 0 rfl rfl ?_; conv => whnf)
     | (refine LdN.own 1 rfl rfl ?_; conv => whnf)
     | (refine LdN.own 2 rfl rfl ?_; conv => whnf))
   | (show Sto _ _ _ _; first
     | (refine Sto.lit 0 rfl rfl rfl ?_; conv => whnf))
  exact RetN.all ⟨_, _, rfl, (by assumption)⟩
end Go.Proofs.YtdemgbmndijkkaaGreatDoor