/- Contracts of the statements' own helpers: when two results are the same. -/
import Derived.Test.YteblflmnhegmjaaDoorQ3
set_option linter.unusedVariables false
set_option linter.unusedSimpArgs false
namespace Go.Dig
/-- the denominator as it is written -/
def dn (q : Rat) : Nat := if q.den = 1 then 0 else q.den
end Go.Dig
namespace Go.Proofs.YteblflmnhegmjaaDoor
open Go Go.Vc Go.Dig

theorem dn_le (q : Rat) : dn q ≤ q.den := by unfold dn; split <;> omega
theorem israt_val {h : Heap} {a b : Sl} {q : Rat} (w : IsRat h a b q) (hs : Sz 1073741824 q) : IsVal h a b (dg 4294967296 (nu q)) (dg 4294967296 (dn q)) :=
  ⟨w.num, w.den, dg_lt two_le_B _, dg_lt two_le_B _, by have := hs.num; unfold ln at this; exact this, by
    have h1 := ln_le_of_le (dn_le q)
    have h2 := hs.den
    unfold ln at h1 h2; omega⟩
theorem ratOf_dg (q : Rat) : ratOf (sg q) (dg 4294967296 (nu q)) (dg 4294967296 (dn q)) = q := by
  unfold ratOf
  rw [evl_dg two_le_B, evl_dg two_le_B]
  have hd := q.den_nz
  have : (if dn q = 0 then 1 else dn q) = q.den := by
    unfold dn
    by_cases h1 : q.den = 1
    · rw [if_pos h1, if_pos rfl, h1]
    · rw [if_neg h1, if_neg hd]
  rw [this, mkQ_self]
theorem okR_dg {q : Rat} (hf : fits q) : okR (sg q) (dg 4294967296 (nu q)) (dg 4294967296 (dn q)) := by
  unfold okR
  rw [ratOf_dg, evl_dg two_le_B, evl_dg two_le_B]
  have h1 := ln_le_of_le (dn_le q)
  have h2 := hf.1
  have h3 := hf.2
  exact ⟨by omega, by omega, hf⟩

theorem cnd_self {x : Int} {p q : Prop} (hp : p) : cnd (eq x x) p q := by rw [Vc.eq_true' rfl]; exact hp
set_option maxRecDepth 20000 in
set_option maxHeartbeats 1000000 in
theorem Canonical_ct (h : Heap) (a b : Sl) (q : Rat) (hq : IsRat h a b q) (hs : Sz 1073741824 q) : Fn0 T F.ref01_Canonical [.agg #[.bool (sg q), a.val, b.val]] h fun v _ => v = .bool true := by
  have hv := israt_val hq hs
  have e := ratOf_dg q
  have hsr : Sr 4294967296 q := (Sr.of hs).mono (by decide)
  have lna := hq.num.len
  have lnb : b.l = ln 4294967296 (dn q) := hq.den.len
  obtain ⟨s, hsg⟩ : ∃ s, s = sg q := ⟨_, rfl⟩
  refine fn0_of_codeI ok D.ref01_Canonical rfl ?_
  conv => whnf
  repeat ((first | refine opsI.step ?_ | refine codeI.step ?_); conv => whnf)
  repeat' first
   | (intro (b1 : Nat); conv => whnf)
   | ((first | refine opsI.step ?_ | refine codeI.step ?_); conv => whnf)
   | (show LdN _ _ _ _ _; first
     | (refine LdN.own 0 rfl rfl ?_; conv => whnf))
  refine CallN.fn rfl (QOf_ct _ _ _ _ _ _ hv) (fun v h1 hl1 hr => ?_)
  rw [e] at hr
  obtain ⟨p1, p2, rfl, hp⟩ := hr
  conv => whnf
  repeat ((first | refine opsI.step ?_ | refine codeI.step ?_); conv => whnf)
  skip
  refine CallN.fn rfl (Rat_ct _ _ _ _ hp hsr) (fun v h2 hl2 hr => ?_)
  obtain ⟨c, d, rfl, hr'⟩ := hr
  have lnc := hr'.num.len
  have lnd : d.l = ln 4294967296 (dn q) := hr'.den.len
  have wa : Ws .u32 h2 a (dg 4294967296 (nu q)) := (hq.num.mono hl1).mono hl2
  have wb : Ws .u32 h2 b (dg 4294967296 (dn q)) := Ws.mono (Ws.mono hv.den hl1) hl2
  have wc : Ws .u32 h2 c (dg 4294967296 (nu q)) := hr'.num
  have wd : Ws .u32 h2 d (dg 4294967296 (dn q)) := hr'.den
  have s1 := hs.num
  have s2 : ln 4294967296 (dn q) ≤ 1073741824 := Nat.le_trans (ln_le_of_le (dn_le q)) hs.den
  clear e hp hv
  conv => whnf
  repeat ((first | refine opsI.step ?_ | refine codeI.step ?_); conv => whnf)
  repeat' first
   | (intro (bo : Nat); conv => whnf)
   | ((first | refine opsI.step ?_ | refine codeI.step ?_); conv => whnf)
   | (show cnd _ _ _; first
     | (refine cnd_eq (fun _ => ?_) (fun _ => ?_) <;> first | (exfalso; omega) | (conv => whnf))
     | (refine cnd_not ?_)
     | (refine cnd_beq (fun _ => ?_) (fun hne => ?_) <;> first | exact absurd rfl hne | (conv => whnf)))
   | (show Ld _ _ _ _; first
     | (refine Ld.own 0 rfl rfl ?_; conv => whnf)
     | (refine Ld.own 1 rfl rfl ?_; conv => whnf))
   | (show Sto _ _ _ _; first
     | (refine Sto.lit 0 rfl rfl rfl ?_; conv => whnf))
  refine LoopN.of (fun r ρ h3 L => ∃ k : Nat, r = a.l - k ∧ h3 = h2 ∧ L = [(bo, .cells [.bool (sg q), c.val, d.val].toArray Ty.api_Rat (0, 0)), (b1, .cells [.bool (sg q), a.val, b.val].toArray Ty.api_Rat (0, 0))] ∧ rd ρ 35 = .int .i64 k ∧ k ≤ a.l) a.l ⟨0, rfl, rfl, rfl, rfl, by omega⟩ ?_
  conv => whnf
  repeat intro _
  rename_i r h3 L3 hI
  obtain ⟨k, rfl, e3, rfl, e0, hk⟩ := hI
  obtain rfl := e3.symm
  conv at e0 => lhs; whnf
  subst e0
  conv => whnf
  repeat ((first | refine opsI.step ?_ | refine codeI.step ?_); conv => whnf)
  repeat' first
   | (show Idx _ _ _ _ _; first
     | (refine Idx.ws wa k (by omega) (by unfold ln at *; omega) (fun ad hv => ?_); conv => whnf)
     | (refine Idx.ws wc k (by omega) (by unfold ln at *; omega) (fun ad hv => ?_); conv => whnf))
   | (show Ld _ _ _ _; first
     | (refine Ld.of (by first | exact hv _ | (rename_i hv; exact hv _)) ?_; conv => whnf)
     | (refine Ld.own 0 rfl rfl ?_; conv => whnf)
     | (refine Ld.own 1 rfl rfl ?_; conv => whnf))
   | ((first | refine opsI.step ?_ | refine codeI.step ?_); conv => whnf)
   | (show WrapN _ _ _; first
     | (refine WrapN.i64 (by omega) (by omega) ?_; conv => whnf))
   | (show cnd _ _ _; first
     | (refine cnd_lt (fun _ => ?_) (fun _ => ?_) <;> first | (exfalso; omega) | (conv => whnf))
     | (refine cnd_eq (fun _ => ?_) (fun _ => ?_) <;> first | (exfalso; omega) | (conv => whnf))
     | (refine cnd_not ?_))
   | (show DrawN _ _ _ _ _ _; first
     | (refine DrawN.run (by decide +kernel) ?_; conv => whnf))
  · exact ⟨rfl, a.l - (k + 1), by omega, k + 1, rfl, rfl, rfl, vi (by omega), by omega⟩
  refine LoopN.of (fun r ρ h3 L => ∃ k : Nat, r = b.l - k ∧ h3 = h2 ∧ L = [(bo, .cells [.bool (sg q), c.val, d.val].toArray Ty.api_Rat (0, 0)), (b1, .cells [.bool (sg q), a.val, b.val].toArray Ty.api_Rat (0, 0))] ∧ rd ρ 53 = .int .i64 k ∧ k ≤ b.l) b.l ⟨0, rfl, rfl, rfl, rfl, by omega⟩ ?_
  conv => whnf
  repeat intro _
  rename_i r h3 L3 hI
  obtain ⟨k, rfl, e3, rfl, e0, hk⟩ := hI
  obtain rfl := e3.symm
  conv at e0 => lhs; whnf
  subst e0
  conv => whnf
  repeat ((first | refine opsI.step ?_ | refine codeI.step ?_); conv => whnf)
  repeat' first
   | (show Idx _ _ _ _ _; first
     | (refine Idx.ws wb k (by omega) (by unfold ln at *; omega) (fun ad hv => ?_); conv => whnf)
     | (refine Idx.ws wd k (by omega) (by unfold ln at *; omega) (fun ad hv => ?_); conv => whnf))
   | (show Ld _ _ _ _; first
     | (refine Ld.of (by first | exact hv _ | (rename_i hv; exact hv _)) ?_; conv => whnf)
     | (refine Ld.own 0 rfl rfl ?_; conv => whnf)
     | (refine Ld.own 1 rfl rfl ?_; conv => whnf))
   | ((first | refine opsI.step ?_ | refine codeI.step ?_); conv => whnf)
   | (show WrapN _ _ _; first
     | (refine WrapN.i64 (by omega) (by omega) ?_; conv => whnf))
   | (show cnd _ _ _; first
     | (refine cnd_lt (fun _ => ?_) (fun _ => ?_) <;> first | (exfalso; omega) | (conv => whnf))
     | (refine cnd_eq (fun _ => ?_) (fun _ => ?_) <;> first | (exfalso; omega) | (conv => whnf))
     | (refine cnd_not ?_))
   | (show DrawN _ _ _ _ _ _; first
     | (refine DrawN.run (by decide +kernel) ?_; conv => whnf))
  · exact ⟨rfl, b.l - (k + 1), by omega, k + 1, rfl, rfl, rfl, vi (by omega), by omega⟩
  exact RetN.all rfl

theorem eq_signs {q r : Rat} (hq : nu q ≠ 0) (hr : nu r ≠ 0) : q = r ↔ sg q = sg r ∧ nu q * r.den = nu r * q.den := by
  constructor
  · rintro rfl; exact ⟨rfl, rfl⟩
  · rintro ⟨h1, h2⟩
    rw [Rat.eq_iff_mul_eq_mul, num_eq q, num_eq r, h1]
    have e : (nu q : Int) * r.den = (nu r : Int) * q.den := by exact_mod_cast h2
    cases sg r
    · simpa using e
    · simp only [if_true, Int.neg_mul, e]
theorem dn_den (q : Rat) : (if dn q = 0 then 1 else dn q) = q.den := by
  have hd := q.den_nz
  unfold dn
  by_cases h1 : q.den = 1
  · rw [if_pos h1, if_pos rfl, h1]
  · rw [if_neg h1, if_neg hd]

set_option maxRecDepth 20000 in
set_option maxHeartbeats 1000000 in
theorem Equal_ct (h : Heap) (a b c d : Sl) (q r : Rat) (hq : IsRat h a b q) (hr : IsRat h c d r) (hs : Sz 1073741824 q) (hs' : Sz 1073741824 r) : Fn0 T F.ref01_Equal [.agg #[.bool (sg q), a.val, b.val], .agg #[.bool (sg r), c.val, d.val]] h fun v _ => v = .bool (dec (q = r)) := by
  have v1 := israt_val hq hs
  have v2 := israt_val hr hs'
  have i1 := v1.num
  have i2 := v1.den
  have i3 := v2.num
  have i4 := v2.den
  have b1 := v1.sn
  have b2 := v1.sm
  have b3 := v2.sn
  have b4 := v2.sm
  have l1 := lb_le (nu q)
  have l2 := lb_le (nu r)
  have l3 := lb_le q.den
  have l4 := lb_le r.den
  have m1 := hs.num
  have m2 := hs.den
  have m3 := hs'.num
  have m4 := hs'.den
  have k1 := lb_le (dn q)
  have k2 := lb_le (dn r)
  have k3 : ln 4294967296 (dn q) ≤ 1073741824 := Nat.le_trans (ln_le_of_le (dn_le q)) m2
  have k4 : ln 4294967296 (dn r) ≤ 1073741824 := Nat.le_trans (ln_le_of_le (dn_le r)) m4
  have d1 := dn_den q
  have d2 := dn_den r
  have p1 := ln_mul two_le_b (nu q) r.den
  have p2 := ln_mul two_le_b (nu r) q.den
  have z1 := ln_eq_zero two_le_b (n := nu q)
  have z2 := ln_eq_zero two_le_b (n := nu r)
  have g1 : nu q = 0 → ln 65536 (nu q) = 0 := z1.2
  have g2 : nu q ≠ 0 → ln 65536 (nu q) ≠ 0 := fun x y => x (z1.1 y)
  have g3 : nu r = 0 → ln 65536 (nu r) = 0 := z2.2
  have g4 : nu r ≠ 0 → ln 65536 (nu r) ≠ 0 := fun x y => x (z2.1 y)
  clear z1 z2 v1 v2
  replace d1 := Hq.mk d1
  replace d2 := Hq.mk d2
  have e1 : nu q = 0 → (q = r ↔ nu r = 0) := fun h0 => by
    rw [nu_eq_zero] at h0
    subst h0
    rw [nu_eq_zero]; exact eq_comm
  have e2 : nu r = 0 → (q = r ↔ nu q = 0) := fun h0 => by
    rw [nu_eq_zero] at h0
    subst h0
    rw [nu_eq_zero]
  have e3 := Hq.mk (eq_signs (q := q) (r := r))
  replace e1 := Hq.mk e1
  replace e2 := Hq.mk e2
  refine fn0_of_codeI ok D.ref01_Equal rfl ?_
  conv => whnf
  repeat ((first | refine opsI.step ?_ | refine codeI.step ?_); conv => whnf)
  repeat' first
   | (show CallN _ _ _ _ _ _; first
     | (refine CallN.fn rfl (words_ct _ _ (dg 4294967296 (nu q)) (by (iterate 30 (try first | assumption | refine IsNat.mono ?_ (by assumption))); first | done | assumption) (dg_lt two_le_B _) (by omega)) (fun v h' hl hr => ?_); rw [evl_dg two_le_B] at hr; obtain ⟨s1, rfl, hs1⟩ := hr; have hl1 := hs1.len; conv => whnf)
     | (refine CallN.fn rfl (words_ct _ _ (dg 4294967296 (nu r)) (by (iterate 30 (try first | assumption | refine IsNat.mono ?_ (by assumption))); first | done | assumption) (dg_lt two_le_B _) (by omega)) (fun v h' hl hr => ?_); rw [evl_dg two_le_B] at hr; obtain ⟨s2, rfl, hs2⟩ := hr; have hl2 := hs2.len; conv => whnf)
     | (refine CallN.fn rfl (words_ct _ _ (dg 4294967296 (dn q)) (by (iterate 30 (try first | assumption | refine IsNat.mono ?_ (by assumption))); first | done | assumption) (dg_lt two_le_B _) (by omega)) (fun v h' hl hr => ?_); rw [evl_dg two_le_B] at hr; obtain ⟨s3, rfl, hs3⟩ := hr; conv => whnf)
     | (refine CallN.fn rfl (words_ct _ _ (dg 4294967296 (dn r)) (by (iterate 30 (try first | assumption | refine IsNat.mono ?_ (by assumption))); first | done | assumption) (dg_lt two_le_B _) (by omega)) (fun v h' hl hr => ?_); rw [evl_dg two_le_B] at hr; obtain ⟨s4, rfl, hs4⟩ := hr; conv => whnf)
     | (refine CallN.fn rfl (den_ct _ _ ⟨none, 0, 0⟩ _ (dn q) (by (iterate 30 (try first | assumption | refine IsRef.mono ?_ (by assumption))); first | done | assumption) (by omega)) (fun v h' hl hr => ?_); rw [d1.out] at hr; obtain ⟨s5, rfl, hs5⟩ := hr; conv => whnf)
     | (refine CallN.fn rfl (den_ct _ _ ⟨none, 0, 0⟩ _ (dn r) (by assumption) (by omega)) (fun v h' hl hr => ?_); rw [d2.out] at hr; obtain ⟨s6, rfl, hs6⟩ := hr; conv => whnf)
     | (refine CallN.fn rfl (NatMul_ct _ _ _ (nu q) r.den (by (iterate 30 (try first | assumption | refine IsRef.mono ?_ (by assumption))); first | done | assumption) (by assumption) (by omega) (by omega)) (fun v h' hl hr => ?_); obtain ⟨s7, rfl, hs7⟩ := hr; conv => whnf)
     | (refine CallN.fn rfl (NatMul_ct _ _ _ (nu r) q.den (by (iterate 30 (try first | assumption | refine IsRef.mono ?_ (by assumption))); first | done | assumption) (by (iterate 30 (try first | assumption | refine IsRef.mono ?_ (by assumption))); first | done | assumption) (by omega) (by omega)) (fun v h' hl hr => ?_); obtain ⟨s8, rfl, hs8⟩ := hr; conv => whnf)
     | (refine CallN.quiet rfl (NatCmp_ct _ _ _ (nu q * r.den) (nu r * q.den) (by (iterate 30 (try first | assumption | refine IsRef.mono ?_ (by assumption))); first | done | assumption) (by assumption) (by omega) (by omega)) ?_; conv => whnf))
   | ((first | refine opsI.step ?_ | refine codeI.step ?_); conv => whnf)
   | (refine ⟨fun _ => HasLe.of_le (by assumption), ?_⟩; conv => whnf)
   | (intro (_ : Nat); conv => whnf)
   | (show cnd _ _ _; first
     | (refine cnd_eq (fun _ => ?_) (fun _ => ?_) <;> first | (exfalso; omega) | (conv => whnf))
     | (refine cnd_beq (fun _ => ?_) (fun hne => ?_) <;> first | exact absurd rfl hne | (conv => whnf)))
   | (show Ld _ _ _ _; first
     | (refine Ld.own 0 rfl rfl ?_; conv => whnf)
     | (refine Ld.own 1 rfl rfl ?_; conv => whnf))
   | (show DrawN _ _ _ _ _ _; first
     | (refine DrawN.run (by decide +kernel) ?_; conv => whnf))
  · have hq0 : nu q = 0 := by
      by_cases hq0 : nu q = 0
      · exact hq0
      · have := g2 hq0; omega
    by_cases hr0 : nu r = 0
    · have := g3 hr0
      exact RetN.all (by rw [dec_true (((e1.out hq0)).2 hr0), Vc.eq_true' (by omega)])
    · have := g4 hr0
      exact RetN.all (by rw [dec_false (fun x => hr0 ((e1.out hq0).1 x)), Vc.eq_false' (by omega)])
  · have hr0 : nu r = 0 := by
      by_cases hr0 : nu r = 0
      · exact hr0
      · have := g4 hr0; omega
    have hq0 : nu q ≠ 0 := fun h0 => by have := g1 h0; omega
    exact RetN.all (by rw [dec_false (fun x => hq0 ((e2.out hr0).1 x)), Vc.eq_false' (by omega)])
  all_goals
    have hq0 : nu q ≠ 0 := fun h0 => by have := g1 h0; omega
    have hr0 : nu r ≠ 0 := fun h0 => by have := g3 h0; omega
    have e4 := e3.out hq0 hr0
  · by_cases hc : nu q * r.den = nu r * q.den
    · exact RetN.all (by rw [dec_true (e4.2 ⟨by assumption, hc⟩), Vc.eq_true' (by rw [hc]; unfold cmpI; simp)])
    · exact RetN.all (by rw [dec_false (fun x => hc (e4.1 x).2), Vc.eq_false' (by unfold cmpI; split <;> (try split) <;> omega)])
  · exact RetN.all (by rw [dec_false (fun x => by have := (e4.1 x).1; contradiction)])
end Go.Proofs.YteblflmnhegmjaaDoor
