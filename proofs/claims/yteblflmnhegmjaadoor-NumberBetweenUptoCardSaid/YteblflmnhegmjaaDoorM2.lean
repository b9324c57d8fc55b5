/- The reference's simplest number between two. -/
import Derived.Test.YteblflmnhegmjaaDoorM1
import Derived.Test.YteblflmnhegmjaaDoorU2
import Derived.Test.YteblflmnhegmjaaDoorQ5
set_option linter.unusedVariables false
set_option linter.unusedSimpArgs false
namespace Go.Dig
theorem signQ_neg (q : Rat) : signQ (-q) = -signQ q := by rw [signQ_eq, signQ_eq, Rat.neg_num, Int.sign_neg]
theorem cmpQ_negs (q r : Rat) : cmpQ (-r) (-q) = cmpQ q r := by
  unfold cmpQ
  rw [Rat.neg_num, Rat.neg_num, Rat.neg_den, Rat.neg_den]
  congr 1
  rw [Int.neg_mul, Int.neg_mul]; omega
theorem Pr.of {q : Rat} (h : 0 < signQ q) : Pr q (nu q) q.den := by
  refine ⟨?_, rfl, rfl⟩
  unfold signQ at h
  split at h
  · omega
  · split at h
    · omega
    · simp_all
theorem pos2_of {q r : Rat} (h : 0 < signQ q) (hc : cmpQ q r ≤ 0) : Pos2 (nu q) q.den (nu r) r.den ∧ 0 < signQ r := by
  have hr : 0 < signQ r := by
    by_cases he : signQ q = signQ r
    · omega
    · rw [cmpQ_signs he] at hc
      split at hc <;> omega
  refine ⟨⟨?_, den_pos q, den_pos r, ?_⟩, hr⟩
  · refine Nat.pos_of_ne_zero fun e => ?_
    unfold signQ at h
    rw [if_pos e] at h; omega
  · rw [(Pr.of h).cmp (Pr.of hr)] at hc
    exact cmpI_le.1 hc
/-- the simplest number between two positive ones; between any two -/
def smpP (q r : Rat) : Rat := mkQ false (smp 4098 (nu q) q.den (nu r) r.den).1 (smp 4098 (nu q) q.den (nu r) r.den).2
def smpQ (q r : Rat) : Rat := if signQ q ≤ 0 ∧ 0 ≤ signQ r then 0 else if signQ r < 0 then -smpP (-r) (-q) else smpP q r
theorem smpQ_neg {q r : Rat} (h : signQ r < 0) : smpQ q r = -smpP (-r) (-q) := by unfold smpQ; rw [if_neg (by omega), if_pos h]
theorem smpQ_pos {q r : Rat} (h : 0 < signQ q) (hr : 0 < signQ r) : smpQ q r = smpP q r := by unfold smpQ; rw [if_neg (by omega), if_neg (by omega)]
theorem smpQ_zero {q r : Rat} (h : signQ q ≤ 0) (hr : 0 ≤ signQ r) : smpQ q r = 0 := if_pos ⟨h, hr⟩
end Go.Dig
namespace Go.Proofs.YteblflmnhegmjaaDoor
open Go Go.Vc Go.Dig
theorem fits_opp {q : Rat} (h : fits q) : fits (-q) := ⟨by rw [nu_neg]; exact h.1, by rw [Rat.neg_den]; exact h.2⟩
theorem two_pow_B (k : Nat) : (2 : Nat) ^ (32 * k) = 4294967296 ^ k := by
  have e : (2 : Nat) ^ 32 = 4294967296 := by decide
  rw [Nat.pow_mul, e]
theorem fits_lt {q : Rat} (h : fits q) (k : Nat) (hk : k = 64) : nu q < 2 ^ (32 * k) ∧ q.den < 2 ^ (32 * k) := by
  rw [two_pow_B]
  exact ⟨(ln_le_iff two_le_B).1 (by rw [hk]; exact h.1), (ln_le_iff two_le_B).1 (by rw [hk]; exact h.2)⟩
theorem fits_enough {q r : Rat} (h : fits q) (h' : fits r) : Enough 4098 (nu q) q.den (nu r) r.den := by
  obtain ⟨k, hk⟩ : ∃ k, k = 64 := ⟨_, rfl⟩
  have := enough_of (k := 32 * k) (fits_lt h k hk).1 (fits_lt h k hk).2 (fits_lt h' k hk).1 (fits_lt h' k hk).2
  rw [show 4098 = 2 * (32 * k) + 2 by omega]; exact this
/-- what is known of the simplest number of two -/
theorem smpP_facts {q r : Rat} (hq : fits q) (hr : fits r) (h : 0 < signQ q) (hc : cmpQ q r ≤ 0) :
    Pr (smpP q r) (smp 4098 (nu q) q.den (nu r) r.den).1 (smp 4098 (nu q) q.den (nu r) r.den).2 ∧ fits (smpP q r) := by
  have P := (pos2_of h hc).1
  have h1 := smp_cop P (fits_enough hq hr)
  have h2 := (smp_pos (k := 4098) P).2
  have p : Pr (smpP q r) _ _ := Pr.mk' (by omega) h1
  refine ⟨p, ?_⟩
  unfold fits
  rw [p.n, p.d]
  rcases smp_le (k := 4098) P with ⟨a, b⟩ | ⟨a, b⟩
  · exact ⟨Nat.le_trans (ln_mono two_le_B a) hq.1, Nat.le_trans (ln_mono two_le_B b) hq.2⟩
  · exact ⟨Nat.le_trans (ln_mono two_le_B a) hr.1, Nat.le_trans (ln_mono two_le_B b) hr.2⟩
theorem smpQ_fits {q r : Rat} (hq : fits q) (hr : fits r) (hc : cmpQ q r ≤ 0) : fits (smpQ q r) := by
  by_cases h1 : 0 < signQ q
  · rw [smpQ_pos h1 (pos2_of h1 hc).2]; exact (smpP_facts hq hr h1 hc).2
  · by_cases h2 : signQ r < 0
    · rw [smpQ_neg h2]
      refine fits_opp ?_
      exact (smpP_facts (fits_opp hr) (fits_opp hq) (by rw [signQ_neg]; omega) (by rw [cmpQ_negs]; exact hc)).2
    · rw [smpQ_zero (by omega) (by omega)]; exact fits_zero

theorem lb_mono {m n : Nat} (h : m ≤ n) : ln 65536 m ≤ ln 65536 n := ln_mono two_le_b h
set_option maxRecDepth 20000 in
set_option maxHeartbeats 2000000 in
theorem plain_ct : ∀ (k : Nat) (h : Heap) (a b c d' : Sl) (n d m e : Nat), IsRef h a n → IsRef h b d → IsRef h c m → IsRef h d' e → ln 65536 n ≤ 65536 → ln 65536 d ≤ 65536 → ln 65536 m ≤ 65536 → ln 65536 e ≤ 65536 → Pos2 n d m e → Enough k n d m e →
    Fn0 T F.ref01_plain [a.val, b.val, c.val, d'.val] h fun v h' => ∃ s t : Sl, v = .tuple #[s.val, t.val] ∧ IsRef h' s (smp k n d m e).1 ∧ IsRef h' t (smp k n d m e).2 := by
  intro k
  induction k with
  | zero => intro h a b c d' n d m e _ _ _ _ _ _ _ _ P hE; exact absurd hE (Enough.pos P)
  | succ k ih =>
    intro h a b c d' n d m e ia ib ic id l1 l2 l3 l4 P hE
    have d0 := P.d0
    have p6 := ln_one 65536 two_le_b
    have s1 := P.step
    have s2 := hE.step P
    have s3 : n % d = 0 → smp (k + 1) n d m e = (n / d, 1) := fun x => by rw [smp, if_pos x]
    have s4 : n % d ≠ 0 → (n / d + 1) * e ≤ m → smp (k + 1) n d m e = (n / d + 1, 1) := fun x y => by rw [smp, if_neg x, if_pos y]
    have s5 := smp_next (k := k) (n := n) (d := d) (m := m) (e := e)
    have c1 := fun h i j => NatDiv_ct h a b n d i j (by omega) (by omega) (by omega)
    have q1 : ln 65536 (n / d) ≤ 65536 := Nat.le_trans (lb_mono (Nat.div_le_self _ _)) l1
    have q2 : ln 65536 (n % d) ≤ 65536 := Nat.le_trans (lb_mono (Nat.mod_le _ _)) l1
    obtain ⟨w, hw⟩ : ∃ w, w = n / d := ⟨_, rfl⟩
    obtain ⟨r, hr⟩ : ∃ r, r = n % d := ⟨_, rfl⟩
    have hz := ln_eq_zero two_le_b (n := r)
    have z1 : ln 65536 r = 0 → r = 0 := hz.1
    have z2 : ln 65536 r ≠ 0 → r ≠ 0 := fun x y => x (hz.2 y)
    clear hz
    simp only [← hw, ← hr] at s1 s2 s3 s4 s5 c1 q1 q2
    have q3 := ln_add two_le_b w 1
    have q4 := ln_mul two_le_b (w + 1) e
    have q5 := ln_mul two_le_b w e
    have q6 : ln 65536 (m - w * e) ≤ 65536 := Nat.le_trans (lb_mono (Nat.sub_le _ _)) l3
    obtain ⟨N1, hN1⟩ : ∃ x, x = w + 1 := ⟨_, rfl⟩
    simp only [← hN1] at s1 s2 s4 s5 q3 q4
    obtain ⟨X, hX⟩ : ∃ x, x = N1 * e := ⟨_, rfl⟩
    simp only [← hX] at s1 s2 s4 s5 q4
    obtain ⟨Y, hY⟩ : ∃ x, x = w * e := ⟨_, rfl⟩
    simp only [← hY] at s1 s2 s5 q5 q6
    obtain ⟨R, hR⟩ : ∃ x, x = m - Y := ⟨_, rfl⟩
    simp only [← hR] at s1 s2 s5 q6
    have cx := cmpI_le (x := X) (y := m)
    obtain ⟨A, hA⟩ : ∃ x, x = (smp k e R d r).1 := ⟨_, rfl⟩
    obtain ⟨B, hB⟩ : ∃ x, x = (smp k e R d r).2 := ⟨_, rfl⟩
    simp only [← hA, ← hB] at s5
    have g1 : ln 65536 r ≠ 0 → 0 < cmpI X m → Y ≤ m ∧ Pos2 e R d r ∧ Enough k e R d r ∧ ln 65536 A ≤ 65536 ∧ ln 65536 B ≤ 65536 := fun x y => by
      have u1 := z2 x
      have u2 : ¬ X ≤ m := fun i => by have := cx.2 i; omega
      obtain ⟨v1, v2, v3⟩ := s1 u1 u2
      refine ⟨by omega, v3, s2 u1 u2, ?_⟩
      rw [hA, hB]
      rcases smp_le (k := k) v3 with ⟨t1, t2⟩ | ⟨t1, t2⟩
      · exact ⟨Nat.le_trans (lb_mono t1) l4, Nat.le_trans (lb_mono t2) q6⟩
      · exact ⟨Nat.le_trans (lb_mono t1) l2, Nat.le_trans (lb_mono t2) q2⟩
    have g2 : ln 65536 r ≠ 0 → cmpI X m ≤ 0 → smp (k + 1) n d m e = (N1, 1) := fun x y => s4 (z2 x) (cx.1 y)
    have g3 : ln 65536 r ≠ 0 → 0 < cmpI X m → smp (k + 1) n d m e = (w * A + B, A) := fun x y => s5 (z2 x) (fun i => by have := cx.2 i; omega)
    have q7 := ln_mul two_le_b w A
    obtain ⟨Z, hZ⟩ : ∃ x, x = w * A := ⟨_, rfl⟩
    simp only [← hZ] at g3 q7
    clear cx s1 s2 s4 s5
    replace hw := Hq.mk hw
    replace hr := Hq.mk hr
    refine fn0_of_codeI ok D.ref01_plain rfl ?_
    conv => whnf
    repeat ((first | refine opsI.step ?_ | refine codeI.step ?_); conv => whnf)
    repeat' first
     | (show CallN _ _ _ _ _ _; first
       | (refine CallN.fn rfl (c1 _ (by assumption) (by assumption)) (fun v h' hl hr => ?_); obtain ⟨q', r', rfl, hq', hr'⟩ := hr; have hrl := hr'.len; conv => whnf)
       | (refine CallN.fn rfl (NatOf_ct _ 1 (by omega)) (fun v h' hl hr => ?_); obtain ⟨s', rfl, hs'⟩ := hr; conv => whnf)
       | (refine CallN.fn rfl (NatAdd_ct _ _ _ w 1 (by (iterate 30 (try first | assumption | refine IsRef.mono ?_ (by assumption))); first | done | assumption) (by assumption) (by omega) (by omega)) (fun v h' hl hr => ?_); rw [← hN1] at hr; obtain ⟨s', rfl, hs'⟩ := hr; conv => whnf)
       | (refine CallN.fn rfl (NatMul_ct _ _ _ N1 e (by (iterate 30 (try first | assumption | refine IsRef.mono ?_ (by assumption))); first | done | assumption) (by (iterate 30 (try first | assumption | refine IsRef.mono ?_ (by assumption))); first | done | assumption) (by omega) (by omega)) (fun v h' hl hr => ?_); rw [← hX] at hr; obtain ⟨s', rfl, hs'⟩ := hr; conv => whnf)
       | (refine CallN.quiet rfl (NatCmp_ct _ _ _ X m (by assumption) (by (iterate 30 (try first | assumption | refine IsRef.mono ?_ (by assumption))); first | done | assumption) (by omega) (by omega)) ?_; conv => whnf)
       | (refine CallN.fn rfl (NatMul_ct _ _ _ w e (by (iterate 30 (try first | assumption | refine IsRef.mono ?_ (by assumption))); first | done | assumption) (by (iterate 30 (try first | assumption | refine IsRef.mono ?_ (by assumption))); first | done | assumption) (by omega) (by omega)) (fun v h' hl hr => ?_); rw [← hY] at hr; obtain ⟨s', rfl, hs'⟩ := hr; conv => whnf)
       | (refine CallN.fn rfl (NatSub_ct _ _ _ m Y (by (iterate 30 (try first | assumption | refine IsRef.mono ?_ (by assumption))); first | done | assumption) (by assumption) (by omega) (by have := (g1 (by omega) (by omega)).1; omega)) (fun v h' hl hr => ?_); rw [← hR] at hr; obtain ⟨s', rfl, hs'⟩ := hr; conv => whnf)
       | (refine CallN.fn rfl (ih _ _ _ _ _ e R d r (by (iterate 30 (try first | assumption | refine IsRef.mono ?_ (by assumption))); first | done | assumption) (by assumption) (by (iterate 30 (try first | assumption | refine IsRef.mono ?_ (by assumption))); first | done | assumption) (by (iterate 30 (try first | assumption | refine IsRef.mono ?_ (by assumption))); first | done | assumption) (by omega) (by omega) (by omega) (by omega) (g1 (by omega) (by omega)).2.1 (g1 (by omega) (by omega)).2.2.1) (fun v h' hl hr => ?_); rw [← hA, ← hB] at hr; obtain ⟨s', t', rfl, hs', ht'⟩ := hr; conv => whnf)
       | (refine CallN.fn rfl (NatMul_ct _ _ _ w A (by (iterate 30 (try first | assumption | refine IsRef.mono ?_ (by assumption))); first | done | assumption) (by assumption) (by omega) (by have := (g1 (by omega) (by omega)).2.2.2; omega)) (fun v h' hl hr => ?_); rw [← hZ] at hr; obtain ⟨s', rfl, hs'⟩ := hr; conv => whnf)
       | (refine CallN.fn rfl (NatAdd_ct _ _ _ Z B (by assumption) (by (iterate 30 (try first | assumption | refine IsRef.mono ?_ (by assumption))); first | done | assumption) (by have := (g1 (by omega) (by omega)).2.2.2; omega) (by have := (g1 (by omega) (by omega)).2.2.2; omega)) (fun v h' hl hr => ?_); obtain ⟨s', rfl, hs'⟩ := hr; conv => whnf))
     | ((first | refine opsI.step ?_ | refine codeI.step ?_); conv => whnf)
     | (show cnd _ _ _; first
       | (refine cnd_le (fun _ => ?_) (fun _ => ?_) <;> first | (exfalso; omega) | (conv => whnf))
       | (refine cnd_eq (fun _ => ?_) (fun _ => ?_) <;> first | (exfalso; omega) | (conv => whnf)))
    all_goals skip
    · exact RetN.all ⟨_, _, rfl, by rw [s3 (z1 (by omega))]; exact (by (iterate 30 (try first | assumption | refine IsRef.mono ?_ (by assumption))); first | done | assumption), by rw [s3 (z1 (by omega))]; exact (by assumption)⟩
    · exact RetN.all ⟨_, _, rfl, by rw [g2 (by omega) (by omega)]; exact (by (iterate 30 (try first | assumption | refine IsRef.mono ?_ (by assumption))); first | done | assumption), by rw [g2 (by omega) (by omega)]; exact (by assumption)⟩
    · exact RetN.all ⟨_, _, rfl, by rw [g3 (by omega) (by omega)]; exact (by assumption), by rw [g3 (by omega) (by omega)]; exact (by (iterate 30 (try first | assumption | refine IsRef.mono ?_ (by assumption))); first | done | assumption)⟩
theorem fits_sr {q : Rat} (h : fits q) : Sr 128 q := Sr.of ⟨h.1, h.2⟩
set_option maxRecDepth 20000 in
set_option maxHeartbeats 2000000 in
theorem PlainP_ct (h : Heap) (a b c d : Sl) (q r : Rat) (hq : IsQ h a b q) (hr : IsQ h c d r) (fq : fits q) (fr : fits r) (sq : 0 < signQ q) (hc : cmpQ q r ≤ 0) :
    Fn0 T F.ref01_Plain [.agg #[.bool (sg q), a.val, b.val], .agg #[.bool (sg r), c.val, d.val]] h fun v h' => ∃ s t : Sl, v = .agg #[.bool (sg (smpP q r)), s.val, t.val] ∧ IsQ h' s t (smpP q r) := by
  obtain ⟨P, sr⟩ := pos2_of sq hc
  have hE := fits_enough fq fr
  have y1 := fits_sr fq
  have y2 := fits_sr fr
  have y3 := y1.mono (show 128 ≤ 1099511627776 by decide)
  have y4 := y2.mono (show 128 ≤ 1099511627776 by decide)
  have i1 := hq.num
  have i2 := hq.den
  have i3 := hr.num
  have i4 := hr.den
  have l1 := y1.num
  have l2 := y1.den
  have l3 := y2.num
  have l4 := y2.den
  have d1 := q.den_nz
  have d2 := r.den_nz
  have c1 := fun h j1 j2 j3 j4 => plain_ct 4098 h a b c d (nu q) q.den (nu r) r.den j1 j2 j3 j4 (by omega) (by omega) (by omega) (by omega) P hE
  have b1 : ln 65536 (smp 4098 (nu q) q.den (nu r) r.den).1 ≤ 128 ∧ ln 65536 (smp 4098 (nu q) q.den (nu r) r.den).2 ≤ 128 := by
    rcases smp_le (k := 4098) P with ⟨u, v⟩ | ⟨u, v⟩
    · exact ⟨Nat.le_trans (lb_mono u) l1, Nat.le_trans (lb_mono v) l2⟩
    · exact ⟨Nat.le_trans (lb_mono u) l3, Nat.le_trans (lb_mono v) l4⟩
  unfold smpP
  obtain ⟨A, hA⟩ : ∃ x, x = (smp 4098 (nu q) q.den (nu r) r.den).1 := ⟨_, rfl⟩
  obtain ⟨B, hB⟩ : ∃ x, x = (smp 4098 (nu q) q.den (nu r) r.den).2 := ⟨_, rfl⟩
  rw [← hA, ← hB] at b1 ⊢
  simp only [← hA, ← hB] at c1
  obtain ⟨b1, b2⟩ := b1
  refine fn0_of_codeI ok D.ref01_Plain rfl ?_
  conv => whnf
  repeat ((first | refine opsI.step ?_ | refine codeI.step ?_); conv => whnf)
  repeat' first
   | (show CallN _ _ _ _ _ _; first
     | (refine CallN.quiet rfl (Sgn_q _ _ _ q (by assumption) (by assumption)) ?_; conv => whnf)
     | (refine CallN.quiet rfl (Sgn_q _ _ _ r (by assumption) (by assumption)) ?_; conv => whnf)
     | (refine CallN.quiet rfl (den_q _ _ _ _ _ (by assumption) (by first | assumption | omega) (by omega)) ?_; conv => whnf)
     | (refine CallN.fn rfl (c1 _ (by assumption) (by assumption) (by assumption) (by assumption)) (fun v h' hl hr => ?_); obtain ⟨s', t', rfl, hs', ht'⟩ := hr; conv => whnf)
     | (refine CallN.fn rfl (Make_ct _ _ _ _ _ _ (by assumption) (by assumption) (by omega) (by omega)) (fun v h' hl hr => ?_); obtain ⟨a', b', rfl, hq'⟩ := hr; have hqn' := hq'.num; have hqd' := hq'.den; conv => whnf))
   | ((first | refine opsI.step ?_ | refine codeI.step ?_); conv => whnf)
   | (refine ⟨fun _ => HasLe.of_le (Heap.le_refl _), ?_⟩; conv => whnf)
   | (refine ⟨fun _ => HasLe.of_le (by assumption), ?_⟩; conv => whnf)
   | (intro (_ : Nat); conv => whnf)
   | (show cnd _ _ _; first
     | (refine cnd_lt (fun _ => ?_) (fun _ => ?_) <;> first | (exfalso; omega) | (conv => whnf))
     | (refine cnd_le (fun _ => ?_) (fun _ => ?_) <;> first | (exfalso; omega) | (conv => whnf)))
   | (show LdN _ _ _ _ _; first
     | (refine LdN.own 0 rfl rfl ?_; conv => whnf)
     | (refine LdN.own 1 rfl rfl ?_; conv => whnf)
     | (refine LdN.own 2 rfl rfl ?_; conv => whnf))
   | (show Ld _ _ _ _; first
     | (refine Ld.own 1 rfl rfl ?_; conv => whnf)
     | (refine Ld.own 2 rfl rfl ?_; conv => whnf))
   | (show Sto _ _ _ _; first
     | (refine Sto.lit 0 rfl rfl rfl ?_; conv => whnf))
   | (show DrawN _ _ _ _ _ _; first
     | (refine DrawN.run (by decide +kernel) ?_; conv => whnf))
  all_goals exact RetN.all ⟨_, _, rfl, (by assumption)⟩
set_option maxRecDepth 20000 in
set_option maxHeartbeats 2000000 in
theorem Plain_ct (h : Heap) (a b c d : Sl) (q r : Rat) (hq : IsQ h a b q) (hr : IsQ h c d r) (fq : fits q) (fr : fits r) (hc : cmpQ q r ≤ 0) :
    Fn0 T F.ref01_Plain [.agg #[.bool (sg q), a.val, b.val], .agg #[.bool (sg r), c.val, d.val]] h fun v h' => ∃ s t : Sl, v = .agg #[.bool (sg (smpQ q r)), s.val, t.val] ∧ IsQ h' s t (smpQ q r) := by
  by_cases sq : 0 < signQ q
  · rw [smpQ_pos sq (pos2_of sq hc).2]; exact PlainP_ct h a b c d q r hq hr fq fr sq hc
  have y3 := (fits_sr fq).mono (show 128 ≤ 1099511627776 by decide)
  have y4 := (fits_sr fr).mono (show 128 ≤ 1099511627776 by decide)
  have y5 : signQ r < 0 → Sr 1099511627776 (smpP (-r) (-q)) := fun sr => (fits_sr (smpP_facts (fits_opp fr) (fits_opp fq) (by rw [signQ_neg]; omega) (by rw [cmpQ_negs]; exact hc)).2).mono (by decide)
  have e1 := fun x : signQ r < 0 => smpQ_neg (q := q) x
  have e2 := fun x : 0 ≤ signQ r => smpQ_zero (q := q) (r := r) (by omega) x
  have c1 := fun (x : signQ r < 0) h i j => PlainP_ct h c d a b (-r) (-q) i j (fits_opp fr) (fits_opp fq) (by rw [signQ_neg]; omega) (by rw [cmpQ_negs]; exact hc)
  have c6 := fun (h : Heap) => Int_ct h 0 (by decide) (by decide)
  rw [show ((0 : Int) : Rat) = 0 from rfl] at c6
  obtain ⟨z, hz⟩ : ∃ z, z = smpP (-r) (-q) := ⟨_, rfl⟩
  rw [← hz] at y5 e1 c1
  have w1 := hq.neg
  have w2 := hr.neg
  obtain ⟨q', hq'⟩ : ∃ x, x = -q := ⟨_, rfl⟩
  obtain ⟨r', hr'⟩ : ∃ x, x = -r := ⟨_, rfl⟩
  have o1 := fun h i => Opp_q h a b q i y3
  have o2 := fun h i => Opp_q h c d r i y4
  rw [← hq'] at w1 c1 o1
  rw [← hr'] at w2 c1 o2
  refine fn0_of_codeI ok D.ref01_Plain rfl ?_
  conv => whnf
  repeat ((first | refine opsI.step ?_ | refine codeI.step ?_); conv => whnf)
  repeat' first
   | (show CallN _ _ _ _ _ _; first
     | (refine CallN.quiet rfl (Sgn_q _ _ _ q (by assumption) (by assumption)) ?_; conv => whnf)
     | (refine CallN.quiet rfl (Sgn_q _ _ _ r (by assumption) (by assumption)) ?_; conv => whnf)
     | (refine CallN.fn rfl (c6 _) (fun v h' hl hr => ?_); obtain ⟨e, f, rfl, hq⟩ := hr; conv => whnf)
     | (refine CallN.quiet rfl (o1 _ (by assumption)) ?_; conv => whnf)
     | (refine CallN.quiet rfl (o2 _ (by assumption)) ?_; conv => whnf)
     | (refine CallN.fn rfl (c1 (by omega) _ (by assumption) (by assumption)) (fun v h' hl hr => ?_); obtain ⟨s', t', rfl, hs'⟩ := hr; conv => whnf)
     | (refine CallN.quiet rfl (Opp_q _ _ _ z (by assumption) (y5 (by omega))) ?_; conv => whnf))
   | ((first | refine opsI.step ?_ | refine codeI.step ?_); conv => whnf)
   | (refine ⟨fun _ => HasLe.of_le (Heap.le_refl _), ?_⟩; conv => whnf)
   | (refine ⟨fun _ => HasLe.of_le (by assumption), ?_⟩; conv => whnf)
   | (refine ⟨fun hst => (by cases (show true = false from hst)), ?_⟩; conv => whnf)
   | (intro (_ : Nat); conv => whnf)
   | (show cnd _ _ _; first
     | (refine cnd_lt (fun _ => ?_) (fun _ => ?_) <;> first | (exfalso; omega) | (conv => whnf))
     | (refine cnd_le (fun _ => ?_) (fun _ => ?_) <;> first | (exfalso; omega) | (conv => whnf)))
   | (show LdN _ _ _ _ _; first
     | (refine LdN.own 0 rfl rfl ?_; conv => whnf)
     | (refine LdN.own 1 rfl rfl ?_; conv => whnf)
     | (refine LdN.own 2 rfl rfl ?_; conv => whnf))
   | (show Sto _ _ _ _; first
     | (refine Sto.lit 0 rfl rfl rfl ?_; conv => whnf))
   | (show DrawN _ _ _ _ _ _; first
     | (refine DrawN.run (by decide +kernel) ?_; conv => whnf))
  all_goals first
    | (rw [e2 (by omega)]; exact RetN.all ⟨_, _, rfl, (by assumption)⟩)
    | (have hs2 := hs'.neg
       rw [e1 (by omega)]; exact RetN.all ⟨_, _, rfl, (by assumption)⟩)
def specSmp (n1 : Bool) (l1 m1 : List Nat) (n2 : Bool) (l2 m2 : List Nat) : Rat × Int :=
  if okR n1 l1 m1 ∧ okR n2 l2 m2 then (if 0 < cmpQ (ratOf n1 l1 m1) (ratOf n2 l2 m2) then (0, 11) else outR (smpQ (ratOf n1 l1 m1) (ratOf n2 l2 m2))) else (0, 1)
set_option maxRecDepth 20000 in
set_option maxHeartbeats 2000000 in
theorem RSimplest_ct (h : Heap) (n1 : Bool) (a1 b1 : Sl) (l1 m1 : List Nat) (n2 : Bool) (a2 b2 : Sl) (l2 m2 : List Nat) (hv1 : IsVal h a1 b1 l1 m1) (hv2 : IsVal h a2 b2 l2 m2) :
    Fn0 T F.ref01_Simplest [.agg #[.bool n1, a1.val, b1.val], .agg #[.bool n2, a2.val, b2.val]] h fun v h' => Res h' v (specSmp n1 l1 m1 n2 l2 m2) := by
  have f0 : ¬ (okR n1 l1 m1 ∧ okR n2 l2 m2) → specSmp n1 l1 m1 n2 l2 m2 = (0, 1) := fun x => if_neg x
  have f1 : okR n1 l1 m1 ∧ okR n2 l2 m2 → 0 < cmpQ (ratOf n1 l1 m1) (ratOf n2 l2 m2) → specSmp n1 l1 m1 n2 l2 m2 = (0, 11) := fun x y => by unfold specSmp; rw [if_pos x, if_pos y]
  have f2 : okR n1 l1 m1 ∧ okR n2 l2 m2 → cmpQ (ratOf n1 l1 m1) (ratOf n2 l2 m2) ≤ 0 → specSmp n1 l1 m1 n2 l2 m2 = outR (smpQ (ratOf n1 l1 m1) (ratOf n2 l2 m2)) := fun x y => by unfold specSmp; rw [if_pos x, if_neg (by omega)]
  have c1 := fun (x : okR n1 l1 m1 ∧ okR n2 l2 m2) => fits_sr (x.1.2.2)
  have c2 := fun (x : okR n1 l1 m1 ∧ okR n2 l2 m2) => fits_sr (x.2.2.2)
  have c3 := fun (x : okR n1 l1 m1 ∧ okR n2 l2 m2) => x.1.2.2
  have c4 := fun (x : okR n1 l1 m1 ∧ okR n2 l2 m2) => x.2.2.2
  have c5 := fun (x : okR n1 l1 m1 ∧ okR n2 l2 m2) hc => (fits_sr (smpQ_fits x.1.2.2 x.2.2.2 hc)).mono (show 128 ≤ 4294967296 by decide)
  obtain ⟨q, hq⟩ : ∃ q, q = ratOf n1 l1 m1 := ⟨_, rfl⟩
  obtain ⟨r, hr⟩ : ∃ q, q = ratOf n2 l2 m2 := ⟨_, rfl⟩
  rw [← hq] at c1 c3
  rw [← hr] at c2 c4
  rw [← hq, ← hr] at f1 f2 c5
  refine fn0_of_codeI ok D.ref01_Simplest rfl ?_
  conv => whnf
  repeat ((first | refine opsI.step ?_ | refine codeI.step ?_); conv => whnf)
  repeat' first
   | (show CallN _ _ _ _ _ _; first
     | (refine CallN.keep 0 rfl rfl fun hle0 => ?_; refine CallN.fn rfl (anyLarge_ct _ _ (0, 0) n1 _ _ l1 m1 n2 _ _ l2 m2 (if_pos rfl) (by (iterate 30 (try first | assumption | refine IsVal.mono ?_ (by assumption))); first | done | assumption) (by (iterate 30 (try first | assumption | refine IsVal.mono ?_ (by assumption))); first | done | assumption)) (fun v h' hl hr => ?_); obtain rfl := hr; conv => whnf)
     | (refine CallN.fn rfl (QOf_ct _ _ _ _ l1 m1 (by (iterate 30 (try first | assumption | refine IsVal.mono ?_ (by assumption))); first | done | assumption)) (fun v h' hl hx => ?_); rw [← hq] at hx; obtain ⟨p1, p2, rfl, hp⟩ := hx; conv => whnf)
     | (refine CallN.fn rfl (QOf_ct _ _ _ _ l2 m2 (by (iterate 30 (try first | assumption | refine IsVal.mono ?_ (by assumption))); first | done | assumption)) (fun v h' hl hx => ?_); rw [← hr] at hx; obtain ⟨p1, p2, rfl, hp⟩ := hx; conv => whnf)
     | (refine CallN.fn rfl (RCmp_ct _ _ _ _ _ q r (by (iterate 30 (try first | assumption | refine IsQ.mono ?_ (by assumption))); first | done | assumption) (by assumption) ((c1 (by assumption)).mono (by decide)) ((c2 (by assumption)).mono (by decide))) (fun v h' hl hr => ?_); obtain rfl := hr; conv => whnf)
     | (refine CallN.fn rfl (Plain_ct _ _ _ _ _ q r (by (iterate 30 (try first | assumption | refine IsQ.mono ?_ (by assumption))); first | done | assumption) (by assumption) (c3 (by assumption)) (c4 (by assumption)) (by omega)) (fun v h' hl hr => ?_); obtain ⟨s', t', rfl, hs'⟩ := hr; conv => whnf)
     | (refine CallN.fn rfl (Done_ct _ _ _ _ (by assumption) (c5 (by assumption) (by omega))) (fun v h' hl hx => ?_); obtain ⟨x, y, rfl, hxy⟩ := hx; conv => whnf))
   | ((first | refine opsI.step ?_ | refine codeI.step ?_); conv => whnf)
   | (refine ⟨fun _ => HasLe.of_le (by assumption), ?_⟩; conv => whnf)
   | (refine ⟨fun hst => (by cases (show true = false from hst)), ?_⟩; conv => whnf)
   | (intro (_ : Nat); conv => whnf)
   | (show cnd _ _ _; first
     | (refine cnd_lt (fun _ => ?_) (fun _ => ?_) <;> first | (exfalso; omega) | (conv => whnf))
     | (refine cnd_not ?_)
     | (refine cnd_dec (fun _ => ?_) (fun _ => ?_) <;> first | (exfalso; omega) | (conv => whnf)))
   | (show LdN _ _ _ _ _; first
     | (refine LdN.own 0 rfl rfl ?_; conv => whnf)
     | (refine LdN.own 1 rfl rfl ?_; conv => whnf)
     | (refine LdN.own 2 rfl rfl ?_; conv => whnf))
   | (show Sto _ _ _ _; first
     | (refine Sto.lit 0 rfl rfl rfl ?_; conv => whnf))
   | (show DrawN _ _ _ _ _ _; first
     | (refine DrawN.run (by decide +kernel) ?_; conv => whnf))
  all_goals first
    | (rw [f0 (by assumption)]; exact RetN.all (Res.err _ _))
    | (rw [f1 (by assumption) (by omega)]; exact RetN.all (Res.err _ _))
    | (rw [f2 (by assumption) (by omega)]; exact RetN.all ⟨_, _, rfl, (by assumption)⟩)
end Go.Proofs.YteblflmnhegmjaaDoor
