/- The program's Simplest; the statement on it; what lies between two numbers. -/
import Derived.Test.YteblflmnhegmjaaDoorM3
import Derived.Test.YteblflmnhegmjaaDoorL11
set_option linter.unusedVariables false
set_option linter.unusedSimpArgs false
namespace Go.Dig
theorem cmpQ_zero (q : Rat) : cmpQ q 0 = signQ q := by
  rw [signQ_eq]; unfold cmpQ; simp
theorem cmpQ_negr (q s : Rat) : cmpQ q (-s) = cmpQ s (-q) := by
  rw [← cmpQ_negs q (-s), Rat.neg_neg]
theorem cmpQ_negl (q s : Rat) : cmpQ (-s) q = cmpQ (-q) s := by
  rw [← cmpQ_negs (-s) q, Rat.neg_neg]
/-- nothing between two numbers is simpler -/
structure Least (q r a : Rat) : Prop where
  lo : cmpQ q a ≤ 0
  hi : cmpQ a r ≤ 0
  min : ∀ z, cmpQ q z ≤ 0 → cmpQ z r ≤ 0 → a.den ≤ z.den ∧ nu a ≤ nu z
end Go.Dig
namespace Go.Proofs.YteblflmnhegmjaaDoor
open Go Go.Vc Go.Dig
theorem leastP {q r : Rat} (fq : fits q) (fr : fits r) (h : 0 < signQ q) (hc : cmpQ q r ≤ 0) : Least q r (smpP q r) := by
  obtain ⟨P, sr⟩ := pos2_of h hc
  have p := Pr.of h
  have p' := Pr.of sr
  obtain ⟨s, -⟩ := smpP_facts fq fr h hc
  obtain ⟨m1, m2⟩ := smp_mem (k := 4098) P
  refine ⟨by rw [p.cmp s]; exact cmpI_le.2 m1, by rw [s.cmp p']; exact cmpI_le.2 m2, fun z h1 h2 => ?_⟩
  obtain ⟨-, sz⟩ := pos2_of h h1
  have pz := Pr.of sz
  rw [p.cmp pz] at h1
  rw [pz.cmp p'] at h2
  have := smp_min P (fits_enough fq fr) (p := nu z) (q := z.den) (den_pos z) (cmpI_le.1 h1) (cmpI_le.1 h2)
  rw [s.n, s.d]
  exact ⟨this.2, this.1⟩
theorem leastQ {q r : Rat} (fq : fits q) (fr : fits r) (hc : cmpQ q r ≤ 0) : Least q r (smpQ q r) := by
  by_cases h1 : 0 < signQ q
  · rw [smpQ_pos h1 (pos2_of h1 hc).2]; exact leastP fq fr h1 hc
  · by_cases h2 : signQ r < 0
    · rw [smpQ_neg h2]
      have l := leastP (fits_opp fr) (fits_opp fq) (by rw [signQ_neg]; omega) (by rw [cmpQ_negs]; exact hc)
      refine ⟨by rw [cmpQ_negr]; exact l.hi, by rw [cmpQ_negl]; exact l.lo, fun z c1 c2 => ?_⟩
      have := l.min (-z) (by rw [cmpQ_negs]; exact c2) (by rw [cmpQ_negs]; exact c1)
      rw [Rat.neg_den, nu_neg] at this
      rw [Rat.neg_den, nu_neg]
      exact this
    · rw [smpQ_zero (by omega) (by omega)]
      refine ⟨by rw [cmpQ_zero]; omega, ?_, fun z _ _ => ⟨den_pos z, by rw [nu_eq_zero.2 rfl]; exact Nat.zero_le _⟩⟩
      have := cmpQ_negr 0 (-r)
      rw [Rat.neg_neg, Rat.neg_zero, cmpQ_zero, signQ_neg] at this
      omega
set_option maxRecDepth 20000 in
theorem simplestQ_ct (h : Heap) (tb : Tb h) (a b c d' : Sl) (q r : Rat) (hq : IsFr h a b q) (hr : IsFr h c d' r) (fq : fits q) (fr : fits r) (sq : 0 < signQ q) (hc : cmpQ q r ≤ 0) :
    Fn0 T F.number_simplest [.agg #[.bool (sg q), a.val, b.val], .agg #[.bool (sg r), c.val, d'.val]] h fun v h' => ∃ s t : Sl, v = .agg #[.bool (sg (smpP q r)), s.val, t.val] ∧ IsFr h' s t (smpP q r) := by
  obtain ⟨P, sr⟩ := pos2_of sq hc
  have p := Pr.of sq
  have p' := Pr.of sr
  obtain ⟨p2, -⟩ := smpP_facts fq fr sq hc
  rw [p.s, p'.s, p2.s]
  have := simplest_ct h tb a b c d' _ _ _ _ ⟨q, hq, p⟩ ⟨r, hr, p'⟩ fq.1 fq.2 fr.1 fr.2 P (fits_enough fq fr)
  exact this.mono fun v h' _ ⟨s, t, e, j⟩ => ⟨s, t, e, by obtain ⟨x, i, y⟩ := j.ex; rw [y.eq, ← p2.eq] at i; exact i⟩
set_option maxRecDepth 20000 in
set_option maxHeartbeats 2000000 in
theorem NSimplest_ct (h : Heap) (tb : Tb h) (n1 : Bool) (a1 b1 : Sl) (l1 m1 : List Nat) (n2 : Bool) (a2 b2 : Sl) (l2 m2 : List Nat) (hv1 : IsVal h a1 b1 l1 m1) (hv2 : IsVal h a2 b2 l2 m2) :
    Fn0 T F.number_Simplest [.agg #[.bool n1, a1.val, b1.val], .agg #[.bool n2, a2.val, b2.val]] h fun v h' => Res h' v (specSmp n1 l1 m1 n2 l2 m2) := by
  have f2 : ¬ okR n1 l1 m1 → specSmp n1 l1 m1 n2 l2 m2 = (0, 1) := fun x => if_neg fun y => x y.1
  have f3 : ¬ okR n2 l2 m2 → specSmp n1 l1 m1 n2 l2 m2 = (0, 1) := fun x => if_neg fun y => x y.2
  have f4 : okR n1 l1 m1 → okR n2 l2 m2 → 0 < cmpQ (ratOf n1 l1 m1) (ratOf n2 l2 m2) → specSmp n1 l1 m1 n2 l2 m2 = (0, 11) := fun x y z => by unfold specSmp; rw [if_pos ⟨x, y⟩, if_pos z]
  have f5 : okR n1 l1 m1 → okR n2 l2 m2 → cmpQ (ratOf n1 l1 m1) (ratOf n2 l2 m2) ≤ 0 → specSmp n1 l1 m1 n2 l2 m2 = outR (smpQ (ratOf n1 l1 m1) (ratOf n2 l2 m2)) := fun x y z => by unfold specSmp; rw [if_pos ⟨x, y⟩, if_neg (by omega)]
  refine fn0_of_codeI ok D.number_Simplest rfl ?_
  conv => whnf
  repeat ((first | refine opsI.step ?_ | refine codeI.step ?_); conv => whnf)
  repeat' first
   | (show CallN _ _ _ _ _ _; first
     | (refine CallN.fn rfl (Read_ct _ (by (iterate 30 (try first | assumption | refine Tb.mono ?_ (by assumption))); first | done | assumption) _ _ _ l1 m1 (by (iterate 30 (try first | assumption | refine IsVal.mono ?_ (by assumption))); first | done | assumption)) (fun v h' hle1 hr => ?_); obtain ⟨s1, c1, d1, rfl, hok1⟩ := hr; conv => whnf)
     | (refine CallN.fn rfl (Read_ct _ (by (iterate 30 (try first | assumption | refine Tb.mono ?_ (by assumption))); first | done | assumption) _ _ _ l2 m2 (by (iterate 30 (try first | assumption | refine IsVal.mono ?_ (by assumption))); first | done | assumption)) (fun v h' hle2 hr => ?_); obtain ⟨s2, c2, d2, rfl, hok2⟩ := hr; conv => whnf))
   | ((first | refine opsI.step ?_ | refine codeI.step ?_); conv => whnf)
   | (intro (_ : Nat); conv => whnf)
   | (show cnd _ _ _; first
     | (refine cnd_not ?_)
     | (refine cnd_dec (fun _ => ?_) (fun _ => ?_) <;> first | (exfalso; omega) | (conv => whnf)))
   | (show LdN _ _ _ _ _; first
     | (refine LdN.own 0 rfl rfl ?_; conv => whnf)
     | (refine LdN.own 1 rfl rfl ?_; conv => whnf)
     | (refine LdN.own 2 rfl rfl ?_; conv => whnf))
   | (show Sto _ _ _ _; first
     | (refine Sto.lit 0 rfl rfl rfl ?_; conv => whnf)
     | (refine Sto.lit 2 rfl rfl rfl ?_; conv => whnf))
  all_goals first
    | (rw [f2 (by assumption)]; exact RetN.all (Res.err _ _))
    | (rw [f3 (by assumption)]; exact RetN.all (Res.err _ _))
    | skip
  obtain ⟨rfl, g1⟩ := hok1 (by assumption)
  obtain ⟨rfl, g2⟩ := hok2 (by assumption)
  have k1 : okR n1 l1 m1 := by assumption
  have k2 : okR n2 l2 m2 := by assumption
  have fq := k1.2.2
  have fr := k2.2.2
  have g4 := f4 k1 k2
  have g5 := f5 k1 k2
  obtain ⟨q, hq⟩ : ∃ q, q = ratOf n1 l1 m1 := ⟨_, rfl⟩
  obtain ⟨r, hr⟩ : ∃ r, r = ratOf n2 l2 m2 := ⟨_, rfl⟩
  rw [← hq] at g1 fq g4 g5
  rw [← hr] at g2 fr g4 g5
  rw [← hq, ← hr]
  have y1 := fits_sz fq
  have y2 := fits_sz fr
  have w1 := y1.mono (show 1073741824 ≤ 1099511627776 by decide)
  have w2 := y2.mono (show 1073741824 ≤ 1099511627776 by decide)
  have x0 : cmpQ q r ≤ 0 → signQ q ≤ 0 → 0 ≤ signQ r → specSmp n1 l1 m1 n2 l2 m2 = (0, 0) := fun x y z => by rw [g5 x, smpQ_zero y z]; exact if_pos fits_zero
  have x1 : cmpQ q r ≤ 0 → 0 < signQ q → specSmp n1 l1 m1 n2 l2 m2 = outR (smpP q r) := fun x y => by rw [g5 x, smpQ_pos y (pos2_of y x).2]
  have x2 : cmpQ q r ≤ 0 → signQ r < 0 → specSmp n1 l1 m1 n2 l2 m2 = outR (-smpP (-r) (-q)) := fun x y => by rw [g5 x, smpQ_neg y]
  have t1 := fun (x : cmpQ q r ≤ 0) (y : 0 < signQ q) => fits_sz (smpP_facts fq fr y x).2
  have t2 := fun (x : cmpQ q r ≤ 0) (y : signQ r < 0) => (smpP_facts (fits_opp fr) (fits_opp fq) (by rw [signQ_neg]; omega) (by rw [cmpQ_negs]; exact x)).2
  have c1' := fun h tb a b c d i j (x : cmpQ q r ≤ 0) (y : 0 < signQ q) => simplestQ_ct h tb a b c d q r i j fq fr y x
  have c2' := fun h tb a b c d i j (x : cmpQ q r ≤ 0) (y : signQ r < 0) => simplestQ_ct h tb a b c d (-r) (-q) i j (fits_opp fr) (fits_opp fq) (by rw [signQ_neg]; omega) (by rw [cmpQ_negs]; exact x)
  have g3 := IsFr.neg g1
  have g6 := IsFr.neg g2
  obtain ⟨z, hz⟩ : ∃ z, z = smpP (-r) (-q) := ⟨_, rfl⟩
  obtain ⟨u, hu⟩ : ∃ u, u = smpP q r := ⟨_, rfl⟩
  rw [← hz] at x2 t2 c2'
  rw [← hu] at x1 t1 c1'
  have t3 := fun x y => (fits_sz (t2 x y)).mono (show 1073741824 ≤ 1099511627776 by decide)
  have t4 := fun x y => fits_sz (fits_opp (t2 x y))
  clear f2 f3 f4 f5 g4 g5 t2 hok1 hok2
  have g4 : 0 < cmpQ q r → specSmp n1 l1 m1 n2 l2 m2 = (0, 11) := fun x => by unfold specSmp; rw [if_pos ⟨k1, k2⟩, ← hq, ← hr, if_pos x]
  clear hq hr hz hu k1 k2
  repeat' first
   | (show CallN _ _ _ _ _ _; first
     | (refine CallN.fn rfl (FCmp_ct _ _ _ _ _ q r (by (iterate 30 (try first | assumption | refine IsFr.mono ?_ (by assumption))); first | done | assumption) (by assumption) y1 y2) (fun v h' hl hr => ?_); obtain rfl := hr; conv => whnf)
     | (refine CallN.quiet rfl (Sign_ct _ _ _ q (by (iterate 30 (try first | assumption | refine IsFr.mono ?_ (by assumption))); first | done | assumption) w1) ?_; conv => whnf)
     | (refine CallN.quiet rfl (Sign_ct _ _ _ r (by (iterate 30 (try first | assumption | refine IsFr.mono ?_ (by assumption))); first | done | assumption) w2) ?_; conv => whnf)
     | (refine CallN.quiet rfl (Opposite_ct _ _ _ q (by (iterate 30 (try first | assumption | refine IsFr.mono ?_ (by assumption))); first | done | assumption) w1) ?_; conv => whnf)
     | (refine CallN.quiet rfl (Opposite_ct _ _ _ r (by (iterate 30 (try first | assumption | refine IsFr.mono ?_ (by assumption))); first | done | assumption) w2) ?_; conv => whnf)
     | (refine CallN.fn rfl (c2' _ (by (iterate 30 (try first | assumption | refine Tb.mono ?_ (by assumption))); first | done | assumption) _ _ _ _ (by (iterate 30 (try first | assumption | refine IsFr.mono ?_ (by assumption))); first | done | assumption) (by (iterate 30 (try first | assumption | refine IsFr.mono ?_ (by assumption))); first | done | assumption) (by omega) (by omega)) (fun v h' hl hr => ?_); obtain ⟨s', t', rfl, hs'⟩ := hr; have hs2 := IsFr.neg hs'; conv => whnf)
     | (refine CallN.fn rfl (c1' _ (by (iterate 30 (try first | assumption | refine Tb.mono ?_ (by assumption))); first | done | assumption) _ _ _ _ (by (iterate 30 (try first | assumption | refine IsFr.mono ?_ (by assumption))); first | done | assumption) (by (iterate 30 (try first | assumption | refine IsFr.mono ?_ (by assumption))); first | done | assumption) (by omega) (by omega)) (fun v h' hl hr => ?_); obtain ⟨s', t', rfl, hs'⟩ := hr; conv => whnf)
     | (refine CallN.quiet rfl (Opposite_ct _ _ _ z (by assumption) (t3 (by omega) (by omega))) ?_; conv => whnf)
     | (refine CallN.fn rfl (Give_ct _ _ _ (-z) (by assumption) (t4 (by omega) (by omega))) (fun v h' hl hr => ?_); obtain ⟨e1, e2, rfl, hq''⟩ := hr; conv => whnf)
     | (refine CallN.fn rfl (Give_ct _ _ _ u (by assumption) (t1 (by omega) (by omega))) (fun v h' hl hr => ?_); obtain ⟨e1, e2, rfl, hq''⟩ := hr; conv => whnf))
   | ((first | refine opsI.step ?_ | refine codeI.step ?_); conv => whnf)
   | (refine ⟨fun _ => HasLe.of_le (Heap.le_refl _), ?_⟩; conv => whnf)
   | (refine ⟨fun _ => HasLe.of_le (by assumption), ?_⟩; conv => whnf)
   | (refine ⟨fun hst => (by cases (show true = false from hst)), ?_⟩; conv => whnf)
   | (show cnd _ _ _; first
     | (refine cnd_lt (fun _ => ?_) (fun _ => ?_) <;> first | (exfalso; omega) | (conv => whnf))
     | (refine cnd_le (fun _ => ?_) (fun _ => ?_) <;> first | (exfalso; omega) | (conv => whnf)))
   | (show LdN _ _ _ _ _; first
     | (refine LdN.own 0 rfl rfl ?_; conv => whnf)
     | (refine LdN.own 1 rfl rfl ?_; conv => whnf)
     | (refine LdN.own 2 rfl rfl ?_; conv => whnf))
   | (show Sto _ _ _ _; first
     | (refine Sto.lit 2 rfl rfl rfl ?_; conv => whnf))
   | (show DrawN _ _ _ _ _ _; first
     | (refine DrawN.run (by decide +kernel) ?_; conv => whnf))
  all_goals first
    | (rw [g4 (by omega)]; exact RetN.all (Res.err _ _))
    | (rw [x0 (by omega) (by omega) (by omega)]; exact RetN.all (Res.err _ _))
    | (rw [x1 (by omega) (by omega)]; exact RetN.all ⟨_, _, rfl, (by assumption)⟩)
    | (rw [x2 (by omega) (by omega)]; exact RetN.all ⟨_, _, rfl, (by assumption)⟩)
theorem Fok.specSmp (n1 : Bool) (l1 m1 : List Nat) (n2 : Bool) (l2 m2 : List Nat) : Fok (Proofs.YteblflmnhegmjaaDoor.specSmp n1 l1 m1 n2 l2 m2) := by
  unfold Proofs.YteblflmnhegmjaaDoor.specSmp
  split
  · split
    · exact Fok.err1 11
    · exact Fok.out _
  · exact Fok.err1 1
set_option maxRecDepth 20000 in
set_option maxHeartbeats 1000000 in
theorem Simplest_law (h : Heap) (tb : Tb h) (n1 : Bool) (a1 b1 : Sl) (l1 m1 : List Nat) (hv1 : IsVal h a1 b1 l1 m1) (n2 : Bool) (a2 b2 : Sl) (l2 m2 : List Nat) (hv2 : IsVal h a2 b2 l2 m2) :
    Fn0 T F.law01_NumberSimplest [.agg #[.bool n1, a1.val, b1.val], .agg #[.bool n2, a2.val, b2.val]] h fun v _ => v = .bool true := by
  have k1 := (Fok.specSmp n1 l1 m1 n2 l2 m2).rok
  obtain ⟨p1, hp1⟩ : ∃ p, p = specSmp n1 l1 m1 n2 l2 m2 := ⟨_, rfl⟩
  rw [← hp1] at k1
  refine fn0_of_codeI ok D.law01_NumberSimplest rfl ?_
  conv => whnf
  repeat ((first | refine opsI.step ?_ | refine codeI.step ?_); conv => whnf)
  repeat' first
   | (show CallN _ _ _ _ _ _; first
     | (refine CallN.fn rfl (NSimplest_ct _ (by assumption) _ _ _ l1 m1 _ _ _ l2 m2 (by assumption) (by assumption)) (fun v h' hl hr => ?_); rw [← hp1] at hr; obtain ⟨x, y, rfl, hq⟩ := hr; conv => whnf)
     | (refine CallN.fn rfl (RSimplest_ct _ _ _ _ l1 m1 _ _ _ l2 m2 (by (iterate 30 (try first | assumption | refine IsVal.mono ?_ (by assumption))); first | done | assumption) (by (iterate 30 (try first | assumption | refine IsVal.mono ?_ (by assumption))); first | done | assumption)) (fun v h' hl hr => ?_); rw [← hp1] at hr; obtain ⟨x, y, rfl, hq⟩ := hr; conv => whnf)
     | (refine CallN.fn rfl (Is_ct _ _ _ _ _ p1.1 p1.2 (by (iterate 30 (try first | assumption | refine IsRat.mono ?_ (by assumption))); first | done | assumption) (by assumption) k1.sz k1.err) (fun v h' hl hr => ?_); obtain rfl := hr; conv => whnf)
     | (refine CallN.fn rfl (awake_ct _ (by (iterate 30 (try first | assumption | refine Tb.mono ?_ (by assumption))); first | done | assumption)) (fun v h' hl hr => ?_); obtain rfl := hr; conv => whnf))
   | ((first | refine opsI.step ?_ | refine codeI.step ?_); conv => whnf)
   | (intro (_ : Nat); conv => whnf)
   | (show LdN _ _ _ _ _; first
     | (refine LdN.own 0 rfl rfl ?_; conv => whnf)
     | (refine LdN.own 1 rfl rfl ?_; conv => whnf)
     | (refine LdN.own 2 rfl rfl ?_; conv => whnf))
   | (show Sto _ _ _ _; first
     | (refine Sto.lit 0 rfl rfl rfl ?_; conv => whnf))
  all_goals exact RetN.all rfl
end Go.Proofs.YteblflmnhegmjaaDoor
