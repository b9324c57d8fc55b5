/- Contracts of the statements' own helpers: when two results are the same. -/
import Derived.Test.YteblflmnhegmjaaDoorQ3
set_option linter.unusedVariables false
set_option linter.unusedSimpArgs false
namespace Go.Dig
/-- the denominator as it is written -/
def dn (q : Rat) : Nat := if q.den = 1 then 0 else q.den
end Go.Dig
namespace Go.Proofs.YteblflmnhegmjaaDoor
open Go Go.Vc Go.Dig

theorem dn_le (q : Rat) : dn q ≤ q.den := by unfold dn; split <;> omega
theorem israt_val {h : Heap} {a b : Sl} {q : Rat} (w : IsRat h a b q) (hs : Sz 1073741824 q) : IsVal h a b (dg 4294967296 (nu q)) (dg 4294967296 (dn q)) :=
  ⟨w.num, w.den, dg_lt two_le_B _, dg_lt two_le_B _, by have := hs.num; unfold ln at this; exact this, by
    have h1 := ln_le_of_le (dn_le q)
    have h2 := hs.den
    unfold ln at h1 h2; omega⟩
theorem ratOf_dg (q : Rat) : ratOf (sg q) (dg 4294967296 (nu q)) (dg 4294967296 (dn q)) = q := by
  unfold ratOf
  rw [evl_dg two_le_B, evl_dg two_le_B]
  have hd := q.den_nz
  have : (if dn q = 0 then 1 else dn q) = q.den := by
    unfold dn
    by_cases h1 : q.den = 1
    · rw [if_pos h1, if_pos rfl, h1]
    · rw [if_neg h1, if_neg hd]
  rw [this, mkQ_self]
theorem okR_dg {q : Rat} (hf : fits q) : okR (sg q) (dg 4294967296 (nu q)) (dg 4294967296 (dn q)) := by
  unfold okR
  rw [ratOf_dg, evl_dg two_le_B, evl_dg two_le_B]
  have h1 := ln_le_of_le (dn_le q)
  have h2 := hf.1
  have h3 := hf.2
  exact ⟨by omega, by omega, hf⟩

theorem cnd_self {x : Int} {p q : Prop} (hp : p) : cnd (eq x x) p q := by rw [Vc.eq_true' rfl]; exact hp
set_option maxRecDepth 20000 in
set_option maxHeartbeats 1000000 in
theorem Canonical_ct (h : Heap) (a b : Sl) (q : Rat) (hq : IsRat h a b q) (hs : Sz 1073741824 q) : Fn0 T F.ref01_Canonical [.agg #[.bool (sg q), a.val, b.val]] h fun v _ => v = .bool true := by
  have hv := israt_val hq hs
  have e := ratOf_dg q
  have hsr : Sr 4294967296 q := (Sr.of hs).mono (by decide)
  have lna := hq.num.len
  have lnb : b.l = ln 4294967296 (dn q) := hq.den.len
  obtain ⟨s, hsg⟩ : ∃ s, s = sg q := ⟨_, rfl⟩
  refine fn0_of_codeI ok D.ref01_Canonical rfl ?_
  conv => whnf
  repeat ((first | refine opsI.step ?_ | refine codeI.step ?_); conv => whnf)
  repeat' first
   | (intro (b1 : Nat); conv => whnf)
   | ((first | refine opsI.step ?_ | refine codeI.step ?_); conv => whnf)
   | (show LdN _ _ _ _ _; first
     | (refine LdN.own 0 rfl rfl ?_; conv => whnf))
  refine CallN.fn rfl (QOf_ct _ _ _ _ _ _ hv) (fun v h1 hl1 hr => ?_)
  rw [e] at hr
  obtain ⟨p1, p2, rfl, hp⟩ := hr
  conv => whnf
  repeat ((first | refine opsI.step ?_ | refine codeI.step ?_); conv => whnf)
  skip
  refine CallN.fn rfl (Rat_ct _ _ _ _ hp hsr) (fun v h2 hl2 hr => ?_)
  obtain ⟨c, d, rfl, hr'⟩ := hr
  have lnc := hr'.num.len
  have lnd : d.l = ln 4294967296 (dn q) := hr'.den.len
  have wa : Ws .u32 h2 a (dg 4294967296 (nu q)) := (hq.num.mono hl1).mono hl2
  have wb : Ws .u32 h2 b (dg 4294967296 (dn q)) := Ws.mono (Ws.mono hv.den hl1) hl2
  have wc : Ws .u32 h2 c (dg 4294967296 (nu q)) := hr'.num
  have wd : Ws .u32 h2 d (dg 4294967296 (dn q)) := hr'.den
  have s1 := hs.num
  have s2 : ln 4294967296 (dn q) ≤ 1073741824 := Nat.le_trans (ln_le_of_le (dn_le q)) hs.den
  clear e hp hv
  conv => whnf
  repeat ((first | refine opsI.step ?_ | refine codeI.step ?_); conv => whnf)
  repeat' first
   | (intro (bo : Nat); conv => whnf)
   | ((first | refine opsI.step ?_ | refine codeI.step ?_); conv => whnf)
   | (show cnd _ _ _; first
     | (refine cnd_eq (fun _ => ?_) (fun _ => ?_) <;> first | (exfalso; omega) | (conv => whnf))
     | (refine cnd_not ?_)
     | (refine cnd_beq (fun _ => ?_) (fun hne => ?_) <;> first | exact absurd rfl hne | (conv => whnf)))
   | (show Ld _ _ _ _; first
     | (refine Ld.own 0 rfl rfl ?_; conv => whnf)
     | (refine Ld.own 1 rfl rfl ?_; conv => whnf))
   | (show Sto _ _ _ _; first
     | (refine Sto.lit 0 rfl rfl rfl ?_; conv => whnf))
  refine LoopN.of (fun r ρ h3 L => ∃ k : Nat, r = a.l - k ∧ h3 = h2 ∧ L = [(bo, .cells [.bool (sg q), c.val, d.val].toArray Ty.api_Rat (0, 0)), (b1, .cells [.bool (sg q), a.val, b.val].toArray Ty.api_Rat (0, 0))] ∧ rd ρ 35 = .int .i64 k ∧ k ≤ a.l) a.l ⟨0, rfl, rfl, rfl, rfl, by omega⟩ ?_
  conv => whnf
  repeat intro _
  rename_i r h3 L3 hI
  obtain ⟨k, rfl, e3, rfl, e0, hk⟩ := hI
  obtain rfl := e3.symm
  conv at e0 => lhs; whnf
  subst e0
  conv => whnf
  repeat ((first | refine opsI.step ?_ | refine codeI.step ?_); conv => whnf)
  repeat' first
   | (show Idx _ _ _ _ _; first
     | (refine Idx.ws wa k (by omega) (by unfold ln at *; omega) (fun ad hv => ?_); conv => whnf)
     | (refine Idx.ws wc k (by omega) (by unfold ln at *; omega) (fun ad hv => ?_); conv => whnf))
   | (show Ld _ _ _ _; first
     | (refine Ld.of (by first | exact hv _ | (rename_i hv; exact hv _)) ?_; conv => whnf)
     | (refine Ld.own 0 rfl rfl ?_; conv => whnf)
     | (refine Ld.own 1 rfl rfl ?_; conv => whnf))
   | ((first | refine opsI.step ?_ | refine codeI.step ?_); conv => whnf)
   | (show WrapN _ _ _; first
     | (refine WrapN.i64 (by omega) (by omega) ?_; conv => whnf))
   | (show cnd _ _ _; first
     | (refine cnd_lt (fun _ => ?_) (fun _ => ?_) <;> first | (exfalso; omega) | (conv => whnf))
     | (refine cnd_eq (fun _ => ?_) (fun _ => ?_) <;> first | (exfalso; omega) | (conv => whnf))
     | (refine cnd_not ?_))
   | (show DrawN _ _ _ _ _ _; first
     | (refine DrawN.run (by decide +kernel) ?_; conv => whnf))
  · exact ⟨rfl, a.l - (k + 1), by omega, k + 1, rfl, rfl, rfl, vi (by omega), by omega⟩
  refine LoopN.of (fun r ρ h3 L => ∃ k : Nat, r = b.l - k ∧ h3 = h2 ∧ L = [(bo, .cells [.bool (sg q), c.val, d.val].toArray Ty.api_Rat (0, 0)), (b1, .cells [.bool (sg q), a.val, b.val].toArray Ty.api_Rat (0, 0))] ∧ rd ρ 53 = .int .i64 k ∧ k ≤ b.l) b.l ⟨0, rfl, rfl, rfl, rfl, by omega⟩ ?_
  conv => whnf
  repeat intro _
  rename_i r h3 L3 hI
  obtain ⟨k, rfl, e3, rfl, e0, hk⟩ := hI
  obtain rfl := e3.symm
  conv at e0 => lhs; whnf
  subst e0
  conv => whnf
  repeat ((first | refine opsI.step ?_ | refine codeI.step ?_); conv => whnf)
  repeat' first
   | (show Idx _ _ _ _ _; first
     | (refine Idx.ws wb k (by omega) (by unfold ln at *; omega) (fun ad hv => ?_); conv => whnf)
     | (refine Idx.ws wd k (by omega) (by unfold ln at *; omega) (fun ad hv => ?_); conv => whnf))
   | (show Ld _ _ _ _; first
     | (refine Ld.of (by first | exact hv _ | (rename_i hv; exact hv _)) ?_; conv => whnf)
     | (refine Ld.own 0 rfl rfl ?_; conv => whnf)
     | (refine Ld.own 1 rfl rfl ?_; conv => whnf))
   | ((first | refine opsI.step ?_ | refine codeI.step ?_); conv => whnf)
   | (show WrapN _ _ _; first
     | (refine WrapN.i64 (by omega) (by omega) ?_; conv => whnf))
   | (show cnd _ _ _; first
     | (refine cnd_lt (fun _ => ?_) (fun _ => ?_) <;> first | (exfalso; omega) | (conv => whnf))
     | (refine cnd_eq (fun _ => ?_) (fun _ => ?_) <;> first | (exfalso; omega) | (conv => whnf))
     | (refine cnd_not ?_))
   | (show DrawN _ _ _ _ _ _; first
     | (refine DrawN.run (by decide +kernel) ?_; conv => whnf))
  · exact ⟨rfl, b.l - (k + 1), by omega, k + 1, rfl, rfl, rfl, vi (by omega), by omega⟩
  exact RetN.all rfl

theorem eq_signs {q r : Rat} (hq : nu q ≠ 0) (hr : nu r ≠ 0) : q = r ↔ sg q = sg r ∧ nu q * r.den = nu r * q.den := by
  constructor
  · rintro rfl; exact ⟨rfl, rfl⟩
  · rintro ⟨h1, h2⟩
    rw [Rat.eq_iff_mul_eq_mul, num_eq q, num_eq r, h1]
    have e : (nu q : Int) * r.den = (nu r : Int) * q.den := by exact_mod_cast h2
    cases sg r
    · simpa using e
    · simp only [if_true, Int.neg_mul, e]
theorem dn_den (q : Rat) : (if dn q = 0 then 1 else dn q) = q.den := by
  have hd := q.den_nz
  unfold dn
  by_cases h1 : q.den = 1
  · rw [if_pos h1, if_pos rfl, h1]
  · rw [if_neg h1, if_neg hd]

set_option maxRecDepth 20000 in
set_option maxHeartbeats 1000000 in
theorem Equal_ct (h : Heap) (a b c d : Sl) (q r : Rat) (hq : IsRat h a b q) (hr : IsRat h c d r) (hs : Sz 1073741824 q) (hs' : Sz 1073741824 r) : Fn0 T F.ref01_Equal [.agg #[.bool (sg q), a.val, b.val], .agg #[.bool (sg r), c.val, d.val]] h fun v _ => v = .bool (dec (q = r)) := by
  have v1 := israt_val hq hs
  have v2 := israt_val hr hs'
  have i1 := v1.num
  have i2 := v1.den
  have i3 := v2.num
  have i4 := v2.den
  have b1 := v1.sn
  have b2 := v1.sm
  have b3 := v2.sn
  have b4 := v2.sm
  have l1 := lb_le (nu q)
  have l2 := lb_le (nu r)
  have l3 := lb_le q.den
  have l4 := lb_le r.den
  have m1 := hs.num
  have m2 := hs.den
  have m3 := hs'.num
  have m4 := hs'.den
  have k1 := lb_le (dn q)
  have k2 := lb_le (dn r)
  have k3 : ln 4294967296 (dn q) ≤ 1073741824 := Nat.le_trans (ln_le_of_le (dn_le q)) m2
  have k4 : ln 4294967296 (dn r) ≤ 1073741824 := Nat.le_trans (ln_le_of_le (dn_le r)) m4
  have d1 := dn_den q
  have d2 := dn_den r
  have p1 := ln_mul two_le_b (nu q) r.den
  have p2 := ln_mul two_le_b (nu r) q.den
  have z1 := ln_eq_zero two_le_b (n := nu q)
  have z2 := ln_eq_zero two_le_b (n := nu r)
  have g1 : nu q = 0 → ln 65536 (nu q) = 0 := z1.2
  have g2 : nu q ≠ 0 → ln 65536 (nu q) ≠ 0 := fun x y => x (z1.1 y)
  have g3 : nu r = 0 → ln 65536 (nu r) = 0 := z2.2
  have g4 : nu r ≠ 0 → ln 65536 (nu r) ≠ 0 := fun x y => x (z2.1 y)
  clear z1 z2 v1 v2
  replace d1 := Hq.mk d1
  replace d2 := Hq.mk d2
  have e1 : nu q = 0 → (q = r ↔ nu r = 0) := fun h0 => by
    rw [nu_eq_zero] at h0
    subst h0
    rw [nu_eq_zero]; exact eq_comm
  have e2 : nu r = 0 → (q = r ↔ nu q = 0) := fun h0 => by
    rw [nu_eq_zero] at h0
    subst h0
    rw [nu_eq_zero]
  have e3 := Hq.mk (eq_signs (q := q) (r := r))
  replace e1 := Hq.mk e1
  replace e2 := Hq.mk e2
  refine fn0_of_codeI ok D.ref01_Equal rfl ?_
  conv => whnf
  repeat ((first | refine opsI.step ?_ | refine codeI.step ?_); conv => whnf)
  repeat' first
   | (show CallN _ _ _ _ _ _; first
     | (refine CallN.fn rfl (words_ct _ _ (dg 4294967296 (nu q)) (by (iterate 30 (try first | assumption | refine IsNat.mono ?_ (by assumption))); first | done | assumption) (dg_lt two_le_B _) (by omega)) (fun v h' hl hr => ?_); rw [evl_dg two_le_B] at hr; obtain ⟨s1, rfl, hs1⟩ := hr; have hl1 := hs1.len; conv => whnf)
     | (refine CallN.fn rfl (words_ct _ _ (dg 4294967296 (nu r)) (by (iterate 30 (try first | assumption | refine IsNat.mono ?_ (by assumption))); first | done | assumption) (dg_lt two_le_B _) (by omega)) (fun v h' hl hr => ?_); rw [evl_dg two_le_B] at hr; obtain ⟨s2, rfl, hs2⟩ := hr; have hl2 := hs2.len; conv => whnf)
     | (refine CallN.fn rfl (words_ct _ _ (dg 4294967296 (dn q)) (by (iterate 30 (try first | assumption | refine IsNat.mono ?_ (by assumption))); first | done | assumption) (dg_lt two_le_B _) (by omega)) (fun v h' hl hr => ?_); rw [evl_dg two_le_B] at hr; obtain ⟨s3, rfl, hs3⟩ := hr; conv => whnf)
     | (refine CallN.fn rfl (words_ct _ _ (dg 4294967296 (dn r)) (by (iterate 30 (try first | assumption | refine IsNat.mono ?_ (by assumption))); first | done | assumption) (dg_lt two_le_B _) (by omega)) (fun v h' hl hr => ?_); rw [evl_dg two_le_B] at hr; obtain ⟨s4, rfl, hs4⟩ := hr; conv => whnf)
     | (refine CallN.fn rfl (den_ct _ _ ⟨none, 0, 0⟩ _ (dn q) (by (iterate 30 (try first | assumption | refine IsRef.mono ?_ (by assumption))); first | done | assumption) (by omega)) (fun v h' hl hr => ?_); rw [d1.out] at hr; obtain ⟨s5, rfl, hs5⟩ := hr; conv => whnf)
     | (refine CallN.fn rfl (den_ct _ _ ⟨none, 0, 0⟩ _ (dn r) (by assumption) (by omega)) (fun v h' hl hr => ?_); rw [d2.out] at hr; obtain ⟨s6, rfl, hs6⟩ := hr; conv => whnf)
     | (refine CallN.fn rfl (NatMul_ct _ _ _ (nu q) r.den (by (iterate 30 (try first | assumption | refine IsRef.mono ?_ (by assumption))); first | done | assumption) (by assumption) (by omega) (by omega)) (fun v h' hl hr => ?_); obtain ⟨s7, rfl, hs7⟩ := hr; conv => whnf)
     | (refine CallN.fn rfl (NatMul_ct _ _ _ (nu r) q.den (by (iterate 30 (try first | assumption | refine IsRef.mono ?_ (by assumption))); first | done | assumption) (by (iterate 30 (try first | assumption | refine IsRef.mono ?_ (by assumption))); first | done | assumption) (by omega) (by omega)) (fun v h' hl hr => ?_); obtain ⟨s8, rfl, hs8⟩ := hr; conv => whnf)
     | (refine CallN.quiet rfl (NatCmp_ct _ _ _ (nu q * r.den) (nu r * q.den) (by (iterate 30 (try first | assumption | refine IsRef.mono ?_ (by assumption))); first | done | assumption) (by assumption) (by omega) (by omega)) ?_; conv => whnf))
   | ((first | refine opsI.step ?_ | refine codeI.step ?_); conv => whnf)
   | (refine ⟨fun _ => HasLe.of_le (by assumption), ?_⟩; conv => whnf)
   | (intro (_ : Nat); conv => whnf)
   | (show cnd _ _ _; first
     | (refine cnd_eq (fun _ => ?_) (fun _ => ?_) <;> first | (exfalso; omega) | (conv => whnf))
     | (refine cnd_beq (fun _ => ?_) (fun hne => ?_) <;> first | exact absurd rfl hne | (conv => whnf)))
   | (show Ld _ _ _ _; first
     | (refine Ld.own 0 rfl rfl ?_; conv => whnf)
     | (refine Ld.own 1 rfl rfl ?_; conv => whnf))
   | (show DrawN _ _ _ _ _ _; first
     | (refine DrawN.run (by decide +kernel) ?_; conv => whnf))
  · have hq0 : nu q = 0 := by
      by_cases hq0 : nu q = 0
      · exact hq0
      · have := g2 hq0; omega
    by_cases hr0 : nu r = 0
    · have := g3 hr0
      exact RetN.all (by rw [dec_true (((e1.out hq0)).2 hr0), Vc.eq_true' (by omega)])
    · have := g4 hr0
      exact RetN.all (by rw [dec_false (fun x => hr0 ((e1.out hq0).1 x)), Vc.eq_false' (by omega)])
  · have hr0 : nu r = 0 := by
      by_cases hr0 : nu r = 0
      · exact hr0
      · have := g4 hr0; omega
    have hq0 : nu q ≠ 0 := fun h0 => by have := g1 h0; omega
    exact RetN.all (by rw [dec_false (fun x => hq0 ((e2.out hr0).1 x)), Vc.eq_false' (by omega)])
  all_goals
    have hq0 : nu q ≠ 0 := fun h0 => by have := g1 h0; omega
    have hr0 : nu r ≠ 0 := fun h0 => by have := g3 h0; omega
    have e4 := e3.out hq0 hr0
  · by_cases hc : nu q * r.den = nu r * q.den
    · exact RetN.all (by rw [dec_true (e4.2 ⟨by assumption, hc⟩), Vc.eq_true' (by rw [hc]; unfold cmpI; simp)])
    · exact RetN.all (by rw [dec_false (fun x => hc (e4.1 x).2), Vc.eq_false' (by unfold cmpI; split <;> (try split) <;> omega)])
  · exact RetN.all (by rw [dec_false (fun x => by have := (e4.1 x).1; contradiction)])
end Go.Proofs.YteblflmnhegmjaaDoor

/- Contracts of the statements' own helpers, second part: None, Is, awake. -/
namespace Go.Proofs.YteblflmnhegmjaaDoor
open Go Go.Vc Go.Dig

theorem None_ct (h : Heap) (a b : Sl) (hq : IsRat h a b 0) : Fn0 T F.law01_None [.agg #[.bool (sg 0), a.val, b.val]] h fun v h' => h' = h ∧ v = .bool true := by
  have h1 := hq.num.len
  have h2 := hq.den.len
  rw [nu_zero, ln_zero] at h1
  rw [if_pos (by rfl), ln_zero] at h2
  rw [sg_zero]
  refine fn0_of_codeI ok D.law01_None rfl ?_
  conv => whnf
  repeat ((first | refine opsI.step ?_ | refine codeI.step ?_); conv => whnf)
  repeat' first
   | ((first | refine opsI.step ?_ | refine codeI.step ?_); conv => whnf)
   | (intro (_ : Nat); conv => whnf)
   | (show cnd _ _ _; first
     | (refine cnd_eq (fun _ => ?_) (fun _ => ?_) <;> first | (exfalso; omega) | (conv => whnf)))
   | (show Ld _ _ _ _; first
     | (refine Ld.own 0 rfl rfl ?_; conv => whnf))
  all_goals exact RetN.all ⟨rfl, by rw [Vc.eq_true' (by omega)]⟩

/-- two results that are the same -/
theorem Is_ct (h : Heap) (a b c d : Sl) (q : Rat) (e : Int) (hq : IsRat h a b q) (hr : IsRat h c d q) (hs : Sz 1073741824 q) (he : e ≠ 0 → q = 0) : Fn0 T F.law01_Is [.agg #[.bool (sg q), a.val, b.val], .int .i64 e, .agg #[.bool (sg q), c.val, d.val], .int .i64 e] h fun v _ => v = .bool true := by
  refine fn0_of_codeI ok D.law01_Is rfl ?_
  by_cases h0 : e = 0
  · subst h0
    conv => whnf
    repeat ((first | refine opsI.step ?_ | refine codeI.step ?_); conv => whnf)
    repeat' first
     | (show CallN _ _ _ _ _ _; first
       | (refine CallN.fn rfl (Canonical_ct _ _ _ q (by assumption) hs) (fun v h' hl hr => ?_); obtain rfl := hr; conv => whnf)
       | (refine CallN.fn rfl (Equal_ct _ _ _ _ _ q q (by (iterate 30 (try first | assumption | refine IsRat.mono ?_ (by assumption))); first | done | assumption) (by (iterate 30 (try first | assumption | refine IsRat.mono ?_ (by assumption))); first | done | assumption) hs hs) (fun v h' hl hr => ?_); obtain rfl := hr; conv => whnf))
     | ((first | refine opsI.step ?_ | refine codeI.step ?_); conv => whnf)
     | (intro (_ : Nat); conv => whnf)
     | (show cnd _ _ _; first
       | (refine cnd_eq (fun _ => ?_) (fun _ => ?_) <;> first | (exfalso; omega) | (conv => whnf))
       | (refine cnd_not ?_))
     | (show LdN _ _ _ _ _; first
       | (refine LdN.own 0 rfl rfl ?_; conv => whnf)
       | (refine LdN.own 1 rfl rfl ?_; conv => whnf))
    all_goals exact RetN.all (by first | rfl | rw [dec_true rfl])
  · have hz := he h0
    subst hz
    conv => whnf
    repeat ((first | refine opsI.step ?_ | refine codeI.step ?_); conv => whnf)
    repeat' first
     | (show CallN _ _ _ _ _ _; first
       | (refine CallN.quiet rfl (None_ct _ _ _ (by assumption)) ?_; conv => whnf))
     | ((first | refine opsI.step ?_ | refine codeI.step ?_); conv => whnf)
     | (intro (_ : Nat); conv => whnf)
     | (show cnd _ _ _; first
       | (refine cnd_eq (fun _ => ?_) (fun _ => ?_) <;> first | (exfalso; omega) | (conv => whnf))
       | (refine cnd_not ?_))
     | (show LdN _ _ _ _ _; first
       | (refine LdN.own 1 rfl rfl ?_; conv => whnf))
    all_goals exact RetN.all rfl

theorem ws_one {h : Heap} {b : Nat} {x : Nat} : Ws .u32 (h.put b (.cells [.int .u32 x].toArray Ty.uint32 (0, 0))) ⟨some ⟨b, 0, none⟩, 1, 1⟩ [x] :=
  Ws.put rfl (Nat.le_refl _) fun i hi => match i, hi with | 0, _ => rfl

theorem dg_small {x : Nat} (h0 : x ≠ 0) (h : x < 4294967296) : dg 4294967296 x = [x] := by
  rw [dg_pos two_le_B h0, Nat.mod_eq_of_lt h, Nat.div_eq_of_lt h, dg_zero]
theorem fits_small {q : Rat} (h1 : nu q < 4294967296) (h2 : q.den < 4294967296) : fits q := by
  have a := (ln_le_iff (k := 1) two_le_B).2 (show nu q < 4294967296 ^ 1 by omega)
  have b := (ln_le_iff (k := 1) two_le_B).2 (show q.den < 4294967296 ^ 1 by omega)
  exact ⟨by omega, by omega⟩
theorem of_small {x y : Nat} (h1 : x < 4294967296) (h2 : y < 4294967296) (hy : y ≠ 0) : okR false [x] [y] ∧ ratOf false [x] [y] = mkQ false x y := by
  have e1 : evl 4294967296 [x] = x := by simp [evl_cons, evl_nil]
  have e2 : evl 4294967296 [y] = y := by simp [evl_cons, evl_nil]
  have e : ratOf false [x] [y] = mkQ false x y := by unfold ratOf; rw [e1, e2, if_neg hy]
  have hle := mkQ_le false (m := x) hy
  refine ⟨⟨?_, ?_, ?_⟩, e⟩
  · rw [e1]; exact Nat.le_trans ((ln_le_iff (k := 1) two_le_B).2 (by omega)) (by decide)
  · rw [e2]; exact Nat.le_trans ((ln_le_iff (k := 1) two_le_B).2 (by omega)) (by decide)
  · rw [e]; exact fits_small (by omega) (by omega)
theorem nu56 : nu (mkQ false 5 6) = 5 := by rw [nu_mkQ false (by decide)]; decide
theorem den56 : (mkQ false 5 6).den = 6 := by rw [den_mkQ false (by decide)]; decide
theorem five_sixths : mkQ false 1 2 + mkQ false 1 3 = mkQ false 5 6 := by unfold mkQ; decide +kernel
theorem awake_val : spec2 (· + ·) false [1] [2] false [1] [3] = (mkQ false 5 6, 0) := by
  obtain ⟨a1, a2⟩ := of_small (x := 1) (y := 2) (by decide) (by decide) (by decide)
  obtain ⟨b1, b2⟩ := of_small (x := 1) (y := 3) (by decide) (by decide) (by decide)
  have hle := mkQ_le false (m := 5) (n := 6) (by decide)
  unfold spec2
  rw [if_pos ⟨a1, b1⟩]
  show outR (ratOf false [1] [2] + ratOf false [1] [3]) = _
  rw [a2, b2, five_sixths]
  exact if_pos (fits_small (by omega) (by omega))

set_option maxRecDepth 20000 in
theorem awake_ct (h : Heap) (tb : Tb h) : Fn0 T F.law01_awake [] h fun v _ => v = .bool true := by
  refine fn0_of_codeI ok D.law01_awake rfl ?_
  conv => whnf
  repeat ((first | refine opsI.step ?_ | refine codeI.step ?_); conv => whnf)
  repeat' first
   | ((first | refine opsI.step ?_ | refine codeI.step ?_); conv => whnf)
   | (intro (_ : Nat); conv => whnf)
  rename_i b1 b2 b3 b4
  refine CallN.keep 0 rfl rfl fun hle1 => ?_
  refine CallN.keep 0 rfl rfl fun hle2 => ?_
  refine CallN.keep 0 rfl rfl fun hle3 => ?_
  refine CallN.keep 0 rfl rfl fun hle4 => ?_
  have w4 := Ws.mono (Ws.mono (Ws.mono (ws_one (h := h) (b := b4) (x := 3)) hle2) hle3) hle4
  have w3 := Ws.mono (Ws.mono (ws_one (h := h.put b4 (.cells [.int .u32 3].toArray Ty.uint32 (0, 0))) (b := b3) (x := 1)) hle3) hle4
  have w2 := Ws.mono (ws_one (h := (h.put b4 (.cells [.int .u32 3].toArray Ty.uint32 (0, 0))).put b3 (.cells [.int .u32 1].toArray Ty.uint32 (0, 0))) (b := b2) (x := 2)) hle4
  have w1 := ws_one (h := ((h.put b4 (.cells [.int .u32 3].toArray Ty.uint32 (0, 0))).put b3 (.cells [.int .u32 1].toArray Ty.uint32 (0, 0))).put b2 (.cells [.int .u32 2].toArray Ty.uint32 (0, 0))) (b := b1) (x := 1)
  have tb' := tb.mono (Heap.le_trans hle1 (Heap.le_trans hle2 (Heap.le_trans hle3 hle4)))
  refine CallN.fn rfl (NAdd_ct _ false ⟨some ⟨b1, 0, none⟩, 1, 1⟩ ⟨some ⟨b2, 0, none⟩, 1, 1⟩ [1] [2] false ⟨some ⟨b3, 0, none⟩, 1, 1⟩ ⟨some ⟨b4, 0, none⟩, 1, 1⟩ [1] [3] tb'
    ⟨w1, w2, by simp, by simp, by simp, by simp⟩ ⟨w3, w4, by simp, by simp, by simp, by simp⟩) (fun v h' hl hr => ?_)
  rw [awake_val] at hr
  have e1 := nu56
  have e2 := den56
  clear hl w1 w2 w3 w4 tb' hle4 hle3 hle2 hle1
  obtain ⟨q, hqe⟩ : ∃ q, q = mkQ false 5 6 := ⟨_, rfl⟩
  rw [← hqe] at hr e1 e2
  clear hqe
  obtain ⟨x, y, hv, hq⟩ := hr
  change v = .tuple #[.agg #[.bool (sg q), x.val, y.val], .int .i64 0] at hv
  change IsRat h' x y q at hq
  subst hv
  have hn : Ws .u32 h' x [5] := by
    have := hq.num
    rw [e1] at this
    unfold IsNat at this
    rwa [dg_small (by decide) (by decide)] at this
  have hd : Ws .u32 h' y [6] := by
    have := hq.den
    rw [e2, if_neg (by decide)] at this
    unfold IsNat at this
    rwa [dg_small (by decide) (by decide)] at this
  have g5 : ([5] : List Nat).getD 0 0 = 5 := rfl
  have g6 : ([6] : List Nat).getD 0 0 = 6 := rfl
  have n1 : x.l = 1 := hn.len
  have n2 : y.l = 1 := hd.len
  conv => whnf
  repeat ((first | refine opsI.step ?_ | refine codeI.step ?_); conv => whnf)
  repeat' first
   | (show Idx _ _ _ _ _; first
     | (refine Idx.ws hn 0 (by omega) (by simp) (fun ad hv => ?_); conv => whnf)
     | (refine Idx.ws hd 0 (by omega) (by simp) (fun ad hv => ?_); conv => whnf))
   | (show Ld _ _ _ _; first
     | (refine Ld.of (hv _) ?_; conv => whnf)
     | (refine Ld.own 0 rfl rfl ?_; conv => whnf))
   | ((first | refine opsI.step ?_ | refine codeI.step ?_); conv => whnf)
   | (intro (_ : Nat); conv => whnf)
   | (show cnd _ _ _; first
     | (refine cnd_eq (fun _ => ?_) (fun _ => ?_) <;> first | (exfalso; omega) | (conv => whnf)))
   | (show Sto _ _ _ _; first
     | (refine Sto.lit 0 rfl rfl rfl ?_; conv => whnf))
  all_goals exact RetN.all (by rw [Vc.eq_true' (by omega)])
end Go.Proofs.YteblflmnhegmjaaDoor

/- What the statements on sums, differences and middles compute: true. -/
namespace Go.Proofs.YteblflmnhegmjaaDoor
open Go Go.Vc Go.Dig

/-- a result: small, and 0 beside an error -/
structure Rok (p : Rat × Int) : Prop where
  sz : Sz 1073741824 p.1
  err : p.2 ≠ 0 → p.1 = 0
theorem sz_zero (k : Nat) : Sz (k + 1) 0 := ⟨by rw [nu_zero, ln_zero]; omega, by rw [show (0 : Rat).den = 1 from rfl, ln_one _ two_le_B]; omega⟩
theorem Rok.err1 (e : Int) : Rok (0, e) := ⟨(sz_zero 0).mono (by decide), fun _ => rfl⟩
theorem Rok.out (q : Rat) : Rok (outR q) := by
  unfold outR
  split
  · rename_i h; exact ⟨⟨Nat.le_trans h.1 (by decide), Nat.le_trans h.2 (by decide)⟩, fun x => absurd rfl x⟩
  · exact Rok.err1 1
theorem Rok.spec2 (op : Rat → Rat → Rat) (n1 : Bool) (l1 m1 : List Nat) (n2 : Bool) (l2 m2 : List Nat) : Rok (Proofs.YteblflmnhegmjaaDoor.spec2 op n1 l1 m1 n2 l2 m2) := by
  unfold Proofs.YteblflmnhegmjaaDoor.spec2
  split
  · exact Rok.out _
  · exact Rok.err1 1

end Go.Proofs.YteblflmnhegmjaaDoor
