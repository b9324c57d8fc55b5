/- The law's span of products. -/
import Derived.Test.YtdemgbmndijkkaaGreatDoorEL20
set_option linter.unusedVariables false
set_option linter.unusedSimpArgs false
namespace Go.Proofs.YtdemgbmndijkkaaGreatDoor
open Go Go.Vc Go.Dig
/-- two new variables behind a region -/
def J2 (h0 : Heap) (L0 : Vc.Own) (p q : Rat) (i j : Nat) (ρ : Env) (h' : Heap) (L' : Vc.Own) : Prop := ∃ (bi bj : Nat) (x1 y1 x2 y2 : Sl), rd ρ i = .pointer (some { block := bi, off := 0 }) ∧ rd ρ j = .pointer (some { block := bj, off := 0 }) ∧ h0.le h' ∧ IsQ h' x1 y1 p ∧ IsQ h' x2 y2 q ∧
  (L' = (bj, .cells [.bool (sg q), x2.val, y2.val].toArray Ty.ref01_Q (0, 0)) :: (bi, .cells [.bool (sg p), x1.val, y1.val].toArray Ty.ref01_Q (0, 0)) :: L0 ∨
   L' = (bi, .cells [.bool (sg p), x1.val, y1.val].toArray Ty.ref01_Q (0, 0)) :: (bj, .cells [.bool (sg q), x2.val, y2.val].toArray Ty.ref01_Q (0, 0)) :: L0)
set_option maxRecDepth 20000 in
set_option maxHeartbeats 4000000 in
theorem span_ct (h : Heap) (a1 b1 a2 b2 a3 b3 a4 b4 : Sl) (a b c d : Rat) (w1 : IsQ h a1 b1 a) (w2 : IsQ h a2 b2 b) (w3 : IsQ h a3 b3 c) (w4 : IsQ h a4 b4 d) (s1 : Sr 128 a) (s2 : Sr 128 b) (s3 : Sr 128 c) (s4 : Sr 128 d) :
    Fn0 T F.top_span [.agg #[.bool (sg a), a1.val, b1.val], .agg #[.bool (sg b), a2.val, b2.val], .agg #[.bool (sg c), a3.val, b3.val], .agg #[.bool (sg d), a4.val, b4.val]] h fun v h' => ∃ (l u : Rat) (x y x' y' : Sl),
      v = .tuple #[.agg #[.bool (sg l), x.val, y.val], .agg #[.bool (sg u), x'.val, y'.val]] ∧ IsQ h' x y l ∧ IsQ h' x' y' u ∧ Sr 256 l ∧ Sr 256 u ∧ (l ≤ a * c ∧ l ≤ a * d ∧ l ≤ b * c ∧ l ≤ b * d) ∧ (a * c ≤ u ∧ a * d ≤ u ∧ b * c ≤ u ∧ b * d ≤ u) := by
  have k1 := fun h w w' => Prod_ct h a1 b1 a3 b3 a c w w' (s1.mono (by decide)) (s3.mono (by decide))
  have k2 := fun h w w' => Prod_ct h a1 b1 a4 b4 a d w w' (s1.mono (by decide)) (s4.mono (by decide))
  have k3 := fun h w w' => Prod_ct h a2 b2 a3 b3 b c w w' (s2.mono (by decide)) (s3.mono (by decide))
  have k4 := fun h w w' => Prod_ct h a2 b2 a4 b4 b d w w' (s2.mono (by decide)) (s4.mono (by decide))
  have z1 : Sr 256 (a * c) := sr_mul s1 s3
  have z2 : Sr 256 (a * d) := sr_mul s1 s4
  have z3 : Sr 256 (b * c) := sr_mul s2 s3
  have z4 : Sr 256 (b * d) := sr_mul s2 s4
  obtain ⟨p1, e1⟩ : ∃ p, p = a * c := ⟨_, rfl⟩
  obtain ⟨p2, e2⟩ : ∃ p, p = a * d := ⟨_, rfl⟩
  obtain ⟨p3, e3⟩ : ∃ p, p = b * c := ⟨_, rfl⟩
  obtain ⟨p4, e4⟩ : ∃ p, p = b * d := ⟨_, rfl⟩
  rw [← e1] at k1 z1 ⊢
  rw [← e2] at k2 z2 ⊢
  rw [← e3] at k3 z3 ⊢
  rw [← e4] at k4 z4 ⊢
  clear e1 e2 e3 e4
  refine fn0_of_codeI ok D.top_span rfl ?_
  repeat' first
   | (refine codeI.seqN (a := .region 1 _ _) ?_)
   | ((first | refine opsI.step ?_ | refine codeI.step ?_); conv => whnf)
   | (intro (_ : Nat); conv => whnf)
  rename_i c1 c2 c3 c4 c5 c6
  refine SeqN.cut (J2 h [(c6, .cells [.bool false, .slice none 0 0, .slice none 0 0].toArray Ty.ref01_Q (0, 0)), (c5, .cells [.bool false, .slice none 0 0, .slice none 0 0].toArray Ty.ref01_Q (0, 0)), (c4, .cells [.bool (sg d), a4.val, b4.val].toArray Ty.ref01_Q (0, 0)), (c3, .cells [.bool (sg c), a3.val, b3.val].toArray Ty.ref01_Q (0, 0)), (c2, .cells [.bool (sg b), a2.val, b2.val].toArray Ty.ref01_Q (0, 0)), (c1, .cells [.bool (sg a), a1.val, b1.val].toArray Ty.ref01_Q (0, 0))] p1 p2 10 11) ?_ ?_
  · conv => whnf
    repeat ((first | refine opsI.step ?_ | refine codeI.step ?_); conv => whnf)
    repeat' first
     | (show DrawN _ _ _ _ _ _; first
       | (refine DrawN.run (by decide +kernel) ?_; conv => whnf))
     | (show CallN _ _ _ _ _ _; first
       | (refine CallN.fn rfl (k1 _ (by assumption) (by assumption)) (fun v h' hl hr => ?_); obtain ⟨x1, y1, rfl, hr1⟩ := hr; conv => whnf)
       | (refine CallN.fn rfl (k2 _ (by (iterate 30 (try first | assumption | refine IsQ.mono ?_ (by assumption))); first | done | assumption) (by (iterate 30 (try first | assumption | refine IsQ.mono ?_ (by assumption))); first | done | assumption)) (fun v h' hl hr => ?_); obtain ⟨x2, y2, rfl, hr2⟩ := hr; conv => whnf))
     | (show LdN _ _ _ _ _; first
       | (refine LdN.own 2 rfl rfl ?_; conv => whnf)
       | (refine LdN.own 3 rfl rfl ?_; conv => whnf)
       | (refine LdN.own 5 rfl rfl ?_; conv => whnf))
     | (show Sto _ _ _ _; first
       | (refine Sto.lit 0 rfl rfl rfl ?_; conv => whnf)
       | (refine Sto.lit 1 rfl rfl rfl ?_; conv => whnf))
     | (refine ⟨fun _ => HasLe.of_le (by assumption), ?_⟩; conv => whnf)
     | (refine ⟨fun _ => HasLe.cons _, ?_⟩; conv => whnf)
     | (refine ⟨fun hst => (by cases (show true = false from hst)), ?_⟩; conv => whnf)
     | (intro (_ : Nat); conv => whnf)
     | (show Both _ _; first
       | (refine Both.mk ?_ ?_ <;> (conv => whnf)))
    all_goals first
      | exact ⟨rfl, _, _, _, _, _, _, rfl, rfl, (by (iterate 30 (try first | assumption | refine Heap.le_trans ?_ (by assumption))); first | done | assumption), (by (iterate 30 (try first | assumption | refine IsQ.mono ?_ (by assumption))); first | done | assumption), (by assumption), Or.inl rfl⟩
      | exact ⟨rfl, _, _, _, _, _, _, rfl, rfl, (by (iterate 30 (try first | assumption | refine Heap.le_trans ?_ (by assumption))); first | done | assumption), (by (iterate 30 (try first | assumption | refine IsQ.mono ?_ (by assumption))); first | done | assumption), (by assumption), Or.inr rfl⟩
  conv => whnf
  repeat intro _
  rename_i h7 L7 hj
  obtain ⟨b10, b11, x1, y1, x2, y2, e10, e11, hle, v1, v2, eL⟩ := hj
  conv at e10 => lhs; whnf
  subst e10
  conv at e11 => lhs; whnf
  subst e11
  replace w1 := w1.mono hle
  replace w2 := w2.mono hle
  replace w3 := w3.mono hle
  replace w4 := w4.mono hle
  clear hle k1 k2
  rcases eL with rfl | rfl
  · repeat' first
     | (refine codeI.seqN (a := .region 2 _ _) ?_)
    refine SeqN.cut (J2 h7 ((b11, .cells [.bool (sg p2), x2.val, y2.val].toArray Ty.ref01_Q (0, 0)) :: (b10, .cells [.bool (sg p1), x1.val, y1.val].toArray Ty.ref01_Q (0, 0)) :: [(c6, .cells [.bool false, .slice none 0 0, .slice none 0 0].toArray Ty.ref01_Q (0, 0)), (c5, .cells [.bool false, .slice none 0 0, .slice none 0 0].toArray Ty.ref01_Q (0, 0)), (c4, .cells [.bool (sg d), a4.val, b4.val].toArray Ty.ref01_Q (0, 0)), (c3, .cells [.bool (sg c), a3.val, b3.val].toArray Ty.ref01_Q (0, 0)), (c2, .cells [.bool (sg b), a2.val, b2.val].toArray Ty.ref01_Q (0, 0)), (c1, .cells [.bool (sg a), a1.val, b1.val].toArray Ty.ref01_Q (0, 0))]) p3 p4 12 13) ?_ ?_
    · conv => whnf
      repeat ((first | refine opsI.step ?_ | refine codeI.step ?_); conv => whnf)
      repeat' first
       | (show DrawN _ _ _ _ _ _; first
         | (refine DrawN.run (by decide +kernel) ?_; conv => whnf))
       | (show CallN _ _ _ _ _ _; first
         | (refine CallN.fn rfl (k3 _ (by assumption) (by assumption)) (fun v h' hl hr => ?_); obtain ⟨x3, y3, rfl, hr3⟩ := hr; conv => whnf)
         | (refine CallN.fn rfl (k4 _ (by (iterate 30 (try first | assumption | refine IsQ.mono ?_ (by assumption))); first | done | assumption) (by (iterate 30 (try first | assumption | refine IsQ.mono ?_ (by assumption))); first | done | assumption)) (fun v h' hl hr => ?_); obtain ⟨x4, y4, rfl, hr4⟩ := hr; conv => whnf))
       | (show LdN _ _ _ _ _; first
         | (refine LdN.own 4 rfl rfl ?_; conv => whnf)
         | (refine LdN.own 5 rfl rfl ?_; conv => whnf)
         | (refine LdN.own 6 rfl rfl ?_; conv => whnf))
       | (show Sto _ _ _ _; first
         | (refine Sto.lit 0 rfl rfl rfl ?_; conv => whnf)
         | (refine Sto.lit 1 rfl rfl rfl ?_; conv => whnf))
       | (refine ⟨fun _ => HasLe.of_le (by assumption), ?_⟩; conv => whnf)
       | (refine ⟨fun _ => HasLe.cons _, ?_⟩; conv => whnf)
       | (refine ⟨fun hst => (by cases (show true = false from hst)), ?_⟩; conv => whnf)
       | (intro (_ : Nat); conv => whnf)
       | (show Both _ _; first
         | (refine Both.mk ?_ ?_ <;> (conv => whnf)))
      all_goals first
        | exact ⟨rfl, _, _, _, _, _, _, rfl, rfl, (by (iterate 30 (try first | assumption | refine Heap.le_trans ?_ (by assumption))); first | done | assumption), (by (iterate 30 (try first | assumption | refine IsQ.mono ?_ (by assumption))); first | done | assumption), (by assumption), Or.inl rfl⟩
        | exact ⟨rfl, _, _, _, _, _, _, rfl, rfl, (by (iterate 30 (try first | assumption | refine Heap.le_trans ?_ (by assumption))); first | done | assumption), (by (iterate 30 (try first | assumption | refine IsQ.mono ?_ (by assumption))); first | done | assumption), (by assumption), Or.inr rfl⟩
    conv => whnf
    repeat intro _
    rename_i h8 L8 hj
    obtain ⟨b12, b13, x3, y3, x4, y4, e12, e13, hle, v3, v4, eL⟩ := hj
    conv at e12 => lhs; whnf
    subst e12
    conv at e13 => lhs; whnf
    subst e13
    replace v1 := v1.mono hle
    replace v2 := v2.mono hle
    clear hle k3 k4
    rcases eL with rfl | rfl
    all_goals (repeat' first
       | (show DrawN _ _ _ _ _ _; first
         | (refine DrawN.run (by decide +kernel) ?_; conv => whnf))
       | (show CallN _ _ _ _ _ _; first
         | (refine CallN.fn rfl (Least_ct _ _ _ _ _ p1 p2 256 (by decide) (by assumption) (by assumption) z1 z2) (fun v h' hl hr => ?_); obtain ⟨l1, x5, y5, rfl, hr5, zl1, hl1, hl2⟩ := hr; conv => whnf)
         | (refine CallN.fn rfl (Least_ct _ _ _ _ _ p3 p4 256 (by decide) (by (iterate 30 (try first | assumption | refine IsQ.mono ?_ (by assumption))); first | done | assumption) (by (iterate 30 (try first | assumption | refine IsQ.mono ?_ (by assumption))); first | done | assumption) z3 z4) (fun v h' hl hr => ?_); obtain ⟨l2, x6, y6, rfl, hr6, zl2, hl3, hl4⟩ := hr; conv => whnf)
         | (refine CallN.fn rfl (Least_ct _ _ _ _ _ l1 l2 256 (by decide) (by (iterate 30 (try first | assumption | refine IsQ.mono ?_ (by assumption))); first | done | assumption) (by assumption) zl1 zl2) (fun v h' hl hr => ?_); obtain ⟨l, x7, y7, rfl, hr7, zl, hl5, hl6⟩ := hr; conv => whnf)
         | (refine CallN.fn rfl (Most_ct _ _ _ _ _ p1 p2 256 (by decide) (by (iterate 30 (try first | assumption | refine IsQ.mono ?_ (by assumption))); first | done | assumption) (by (iterate 30 (try first | assumption | refine IsQ.mono ?_ (by assumption))); first | done | assumption) z1 z2) (fun v h' hl hr => ?_); obtain ⟨u1, x8, y8, rfl, hr8, zu1, hu1, hu2⟩ := hr; conv => whnf)
         | (refine CallN.fn rfl (Most_ct _ _ _ _ _ p3 p4 256 (by decide) (by (iterate 30 (try first | assumption | refine IsQ.mono ?_ (by assumption))); first | done | assumption) (by (iterate 30 (try first | assumption | refine IsQ.mono ?_ (by assumption))); first | done | assumption) z3 z4) (fun v h' hl hr => ?_); obtain ⟨u2, x9, y9, rfl, hr9, zu2, hu3, hu4⟩ := hr; conv => whnf)
         | (refine CallN.fn rfl (Most_ct _ _ _ _ _ u1 u2 256 (by decide) (by (iterate 30 (try first | assumption | refine IsQ.mono ?_ (by assumption))); first | done | assumption) (by assumption) zu1 zu2) (fun v h' hl hr => ?_); obtain ⟨u, x0, y0, rfl, hr0, zu, hu5, hu6⟩ := hr; conv => whnf))
       | ((first | refine opsI.step ?_ | refine codeI.step ?_); conv => whnf)
       | (refine ⟨fun _ => HasLe.of_le (by assumption), ?_⟩; conv => whnf)
       | (refine ⟨fun hst => (by cases (show true = false from hst)), ?_⟩; conv => whnf)
       | (show LdN _ _ _ _ _; first
         | (refine LdN.own 0 rfl rfl ?_; conv => whnf)
         | (refine LdN.own 1 rfl rfl ?_; conv => whnf)
         | (refine LdN.own 2 rfl rfl ?_; conv => whnf)
         | (refine LdN.own 3 rfl rfl ?_; conv => whnf)
         | (refine LdN.own 4 rfl rfl ?_; conv => whnf)
         | (refine LdN.own 5 rfl rfl ?_; conv => whnf))
       | (show Sto _ _ _ _; first
         | (refine Sto.lit 4 rfl rfl rfl ?_; conv => whnf)
         | (refine Sto.lit 5 rfl rfl rfl ?_; conv => whnf)))
    all_goals exact RetN.all ⟨l, u, _, _, _, _, rfl, (by (iterate 30 (try first | assumption | refine IsQ.mono ?_ (by assumption))); first | done | assumption), (by assumption), zl, zu, ⟨Rat.le_trans hl5 hl1, Rat.le_trans hl5 hl2, Rat.le_trans hl6 hl3, Rat.le_trans hl6 hl4⟩, ⟨Rat.le_trans hu1 hu5, Rat.le_trans hu2 hu5, Rat.le_trans hu3 hu6, Rat.le_trans hu4 hu6⟩⟩
  · repeat' first
     | (refine codeI.seqN (a := .region 2 _ _) ?_)
    refine SeqN.cut (J2 h7 ((b10, .cells [.bool (sg p1), x1.val, y1.val].toArray Ty.ref01_Q (0, 0)) :: (b11, .cells [.bool (sg p2), x2.val, y2.val].toArray Ty.ref01_Q (0, 0)) :: [(c6, .cells [.bool false, .slice none 0 0, .slice none 0 0].toArray Ty.ref01_Q (0, 0)), (c5, .cells [.bool false, .slice none 0 0, .slice none 0 0].toArray Ty.ref01_Q (0, 0)), (c4, .cells [.bool (sg d), a4.val, b4.val].toArray Ty.ref01_Q (0, 0)), (c3, .cells [.bool (sg c), a3.val, b3.val].toArray Ty.ref01_Q (0, 0)), (c2, .cells [.bool (sg b), a2.val, b2.val].toArray Ty.ref01_Q (0, 0)), (c1, .cells [.bool (sg a), a1.val, b1.val].toArray Ty.ref01_Q (0, 0))]) p3 p4 12 13) ?_ ?_
    · conv => whnf
      repeat ((first | refine opsI.step ?_ | refine codeI.step ?_); conv => whnf)
      repeat' first
       | (show DrawN _ _ _ _ _ _; first
         | (refine DrawN.run (by decide +kernel) ?_; conv => whnf))
       | (show CallN _ _ _ _ _ _; first
         | (refine CallN.fn rfl (k3 _ (by assumption) (by assumption)) (fun v h' hl hr => ?_); obtain ⟨x3, y3, rfl, hr3⟩ := hr; conv => whnf)
         | (refine CallN.fn rfl (k4 _ (by (iterate 30 (try first | assumption | refine IsQ.mono ?_ (by assumption))); first | done | assumption) (by (iterate 30 (try first | assumption | refine IsQ.mono ?_ (by assumption))); first | done | assumption)) (fun v h' hl hr => ?_); obtain ⟨x4, y4, rfl, hr4⟩ := hr; conv => whnf))
       | (show LdN _ _ _ _ _; first
         | (refine LdN.own 4 rfl rfl ?_; conv => whnf)
         | (refine LdN.own 5 rfl rfl ?_; conv => whnf)
         | (refine LdN.own 6 rfl rfl ?_; conv => whnf))
       | (show Sto _ _ _ _; first
         | (refine Sto.lit 0 rfl rfl rfl ?_; conv => whnf)
         | (refine Sto.lit 1 rfl rfl rfl ?_; conv => whnf))
       | (refine ⟨fun _ => HasLe.of_le (by assumption), ?_⟩; conv => whnf)
       | (refine ⟨fun _ => HasLe.cons _, ?_⟩; conv => whnf)
       | (refine ⟨fun hst => (by cases (show true = false from hst)), ?_⟩; conv => whnf)
       | (intro (_ : Nat); conv => whnf)
       | (show Both _ _; first
         | (refine Both.mk ?_ ?_ <;> (conv => whnf)))
      all_goals first
        | exact ⟨rfl, _, _, _, _, _, _, rfl, rfl, (by (iterate 30 (try first | assumption | refine Heap.le_trans ?_ (by assumption))); first | done | assumption), (by (iterate 30 (try first | assumption | refine IsQ.mono ?_ (by assumption))); first | done | assumption), (by assumption), Or.inl rfl⟩
        | exact ⟨rfl, _, _, _, _, _, _, rfl, rfl, (by (iterate 30 (try first | assumption | refine Heap.le_trans ?_ (by assumption))); first | done | assumption), (by (iterate 30 (try first | assumption | refine IsQ.mono ?_ (by assumption))); first | done | assumption), (by assumption), Or.inr rfl⟩
    conv => whnf
    repeat intro _
    rename_i h8 L8 hj
    obtain ⟨b12, b13, x3, y3, x4, y4, e12, e13, hle, v3, v4, eL⟩ := hj
    conv at e12 => lhs; whnf
    subst e12
    conv at e13 => lhs; whnf
    subst e13
    replace v1 := v1.mono hle
    replace v2 := v2.mono hle
    clear hle k3 k4
    rcases eL with rfl | rfl
    all_goals (repeat' first
       | (show DrawN _ _ _ _ _ _; first
         | (refine DrawN.run (by decide +kernel) ?_; conv => whnf))
       | (show CallN _ _ _ _ _ _; first
         | (refine CallN.fn rfl (Least_ct _ _ _ _ _ p1 p2 256 (by decide) (by assumption) (by assumption) z1 z2) (fun v h' hl hr => ?_); obtain ⟨l1, x5, y5, rfl, hr5, zl1, hl1, hl2⟩ := hr; conv => whnf)
         | (refine CallN.fn rfl (Least_ct _ _ _ _ _ p3 p4 256 (by decide) (by (iterate 30 (try first | assumption | refine IsQ.mono ?_ (by assumption))); first | done | assumption) (by (iterate 30 (try first | assumption | refine IsQ.mono ?_ (by assumption))); first | done | assumption) z3 z4) (fun v h' hl hr => ?_); obtain ⟨l2, x6, y6, rfl, hr6, zl2, hl3, hl4⟩ := hr; conv => whnf)
         | (refine CallN.fn rfl (Least_ct _ _ _ _ _ l1 l2 256 (by decide) (by (iterate 30 (try first | assumption | refine IsQ.mono ?_ (by assumption))); first | done | assumption) (by assumption) zl1 zl2) (fun v h' hl hr => ?_); obtain ⟨l, x7, y7, rfl, hr7, zl, hl5, hl6⟩ := hr; conv => whnf)
         | (refine CallN.fn rfl (Most_ct _ _ _ _ _ p1 p2 256 (by decide) (by (iterate 30 (try first | assumption | refine IsQ.mono ?_ (by assumption))); first | done | assumption) (by (iterate 30 (try first | assumption | refine IsQ.mono ?_ (by assumption))); first | done | assumption) z1 z2) (fun v h' hl hr => ?_); obtain ⟨u1, x8, y8, rfl, hr8, zu1, hu1, hu2⟩ := hr; conv => whnf)
         | (refine CallN.fn rfl (Most_ct _ _ _ _ _ p3 p4 256 (by decide) (by (iterate 30 (try first | assumption | refine IsQ.mono ?_ (by assumption))); first | done | assumption) (by (iterate 30 (try first | assumption | refine IsQ.mono ?_ (by assumption))); first | done | assumption) z3 z4) (fun v h' hl hr => ?_); obtain ⟨u2, x9, y9, rfl, hr9, zu2, hu3, hu4⟩ := hr; conv => whnf)
         | (refine CallN.fn rfl (Most_ct _ _ _ _ _ u1 u2 256 (by decide) (by (iterate 30 (try first | assumption | refine IsQ.mono ?_ (by assumption))); first | done | assumption) (by assumption) zu1 zu2) (fun v h' hl hr => ?_); obtain ⟨u, x0, y0, rfl, hr0, zu, hu5, hu6⟩ := hr; conv => whnf))
       | ((first | refine opsI.step ?_ | refine codeI.step ?_); conv => whnf)
       | (refine ⟨fun _ => HasLe.of_le (by assumption), ?_⟩; conv => whnf)
       | (refine ⟨fun hst => (by cases (show true = false from hst)), ?_⟩; conv => whnf)
       | (show LdN _ _ _ _ _; first
         | (refine LdN.own 0 rfl rfl ?_; conv => whnf)
         | (refine LdN.own 1 rfl rfl ?_; conv => whnf)
         | (refine LdN.own 2 rfl rfl ?_; conv => whnf)
         | (refine LdN.own 3 rfl rfl ?_; conv => whnf)
         | (refine LdN.own 4 rfl rfl ?_; conv => whnf)
         | (refine LdN.own 5 rfl rfl ?_; conv => whnf))
       | (show Sto _ _ _ _; first
         | (refine Sto.lit 4 rfl rfl rfl ?_; conv => whnf)
         | (refine Sto.lit 5 rfl rfl rfl ?_; conv => whnf)))
    all_goals exact RetN.all ⟨l, u, _, _, _, _, rfl, (by (iterate 30 (try first | assumption | refine IsQ.mono ?_ (by assumption))); first | done | assumption), (by assumption), zl, zu, ⟨Rat.le_trans hl5 hl1, Rat.le_trans hl5 hl2, Rat.le_trans hl6 hl3, Rat.le_trans hl6 hl4⟩, ⟨Rat.le_trans hu1 hu5, Rat.le_trans hu2 hu5, Rat.le_trans hu3 hu6, Rat.le_trans hu4 hu6⟩⟩
end Go.Proofs.YtdemgbmndijkkaaGreatDoor