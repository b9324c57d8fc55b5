/- The law's small functions: the ends of a bracket, common numbers, the span of products. -/
import Derived.Test.YtdemgbmndijkkaaGreatDoorEL19
import Derived.Test.YtdemgbmndijkkaaGreatDoorL3
import Derived.Test.YtdemgbmndijkkaaGreatDoorL4
set_option linter.unusedVariables false
set_option linter.unusedSimpArgs false
namespace Go.Proofs.YtdemgbmndijkkaaGreatDoor
open Go Go.Vc Go.Dig
theorem OfR_ct (h : Heap) (a b : Sl) (q : Rat) (w : IsRat h a b q) (s : Sz 1073741824 q) :
    Fn0 T F.ref01_Of [.agg #[.bool (sg q), a.val, b.val]] h fun v h' => ∃ c d : Sl, v = .agg #[.bool (sg q), c.val, d.val] ∧ IsQ h' c d q := by
  have := QOf_ct h (sg q) a b _ _ (israt_val w s)
  rw [ratOf_dg] at this
  exact this
set_option maxRecDepth 20000 in
set_option maxHeartbeats 2000000 in
theorem ends_ct (h : Heap) (tb : Tb h) (a b : Sl) (q : Rat) (fn : Nat) (p : Int) (h1 : 1 ≤ fn) (h4 : fn ≤ 4) (w : IsQ h a b q) (hs : Sz 1073741824 q) (hr : Sr 4294967296 q) :
    Fn0 T F.top_ends [.int .i64 fn, .agg #[.bool (sg q), a.val, b.val], .int .i64 p] h fun v h' => ∃ (lo hi : Rat) (c d c' d' : Sl) (o : Bool),
      v = .tuple #[.agg #[.bool (sg lo), c.val, d.val], .agg #[.bool (sg hi), c'.val, d'.val], .bool o] ∧ IsQ h' c d lo ∧ IsQ h' c' d' hi ∧ Sr 128 lo ∧ Sr 128 hi ∧ (o = true ↔ Rdy fn q p) ∧ (o = true → Good fn q lo hi) := by
  have kr := fun h w => Rat_ct h a b q w hr
  have ka := fun h tb a b w => Apply_ct h tb a b q fn p h1 h4 w hs
  obtain ⟨s, hs'⟩ : ∃ s, s = sg q := ⟨_, rfl⟩
  rw [← hs'] at kr ka ⊢
  obtain ⟨x, hx⟩ : ∃ x, x = (fn : Int) := ⟨_, rfl⟩
  rw [← hx] at ka ⊢
  refine fn0_of_codeI ok D.top_ends rfl ?_
  conv => whnf
  repeat ((first | refine opsI.step ?_ | refine codeI.step ?_); conv => whnf)
  repeat' first
   | (show DrawN _ _ _ _ _ _; first
     | (refine DrawN.run (by decide +kernel) ?_; conv => whnf))
   | (show LdN _ _ _ _ _; first
     | (refine LdN.ownAt 0 rfl rfl ?_; conv => whnf)
     | (refine LdN.ownAt 1 rfl rfl ?_; conv => whnf)
     | (refine LdN.own 2 rfl rfl ?_; conv => whnf))
   | (show CallN _ _ _ _ _ _; first
     | (refine CallN.fn rfl (kr _ (by assumption)) (fun v h' hl hr => ?_); obtain ⟨c1, d1, rfl, hr1⟩ := hr; conv => whnf)
     | (refine CallN.fn rfl (ka _ (by (iterate 30 (try first | assumption | refine Tb.mono ?_ (by assumption))); first | done | assumption) _ _ (hr1.mono (by (iterate 30 (try first | assumption | exact Heap.le_refl _)); first | done | assumption))) (fun v h' hl hr => ?_); obtain ⟨v', e, lo, hi, rfl, ⟨a2, b2, a3, b3, rfl, hr2, hr3, hf2, hf3⟩, he, gd⟩ := hr; conv => whnf)
     | (refine CallN.fn rfl (OfR_ct _ _ _ lo (hr2.mono (by (iterate 30 (try first | assumption | exact Heap.le_refl _)); first | done | assumption)) (fits_sz hf2)) (fun v h' hl hr => ?_); obtain ⟨a4, b4, rfl, hr4⟩ := hr; conv => whnf)
     | (refine CallN.fn rfl (OfR_ct _ _ _ hi (hr3.mono (by assumption)) (fits_sz hf3)) (fun v h' hl hr => ?_); obtain ⟨a5, b5, rfl, hr5⟩ := hr; conv => whnf))
   | ((first | refine opsI.step ?_ | refine codeI.step ?_); conv => whnf)
   | (refine ⟨fun _ => HasLe.of_le (by assumption), ?_⟩; conv => whnf)
   | (refine ⟨fun hst => (by cases (show true = false from hst)), ?_⟩; conv => whnf)
   | (intro (_ : Nat); conv => whnf)
   | (show Sto _ _ _ _; first
     | (refine Sto.lit 0 rfl rfl rfl ?_; conv => whnf)
     | (refine Sto.lit 1 rfl rfl rfl ?_; conv => whnf)
     | (refine Sto.lit 2 rfl rfl rfl ?_; conv => whnf))
  all_goals
    refine RetN.all ⟨lo, hi, a4, b4, a5, b5, Vc.eq e 0, rfl, (by (iterate 30 (try first | assumption | refine IsQ.mono ?_ (by assumption))); first | done | assumption), (by assumption), Sr.of ⟨hf2.1, hf2.2⟩, Sr.of ⟨hf3.1, hf3.2⟩, ?_, fun o => gd (by unfold Vc.eq at o; exact of_decide_eq_true o)⟩
    rw [← he]
    unfold Vc.eq
    exact decide_eq_true_iff
theorem cmp_le_iff {q r : Rat} : cmpQ q r ≤ 0 ↔ q ≤ r := by
  rcases cmp_tri q r with ⟨h1, h2⟩ | ⟨h1, h2⟩ | ⟨h1, h2⟩
  · rw [h1]; exact ⟨fun _ => by grind, fun _ => by decide⟩
  · rw [h1]; exact ⟨fun _ => by grind, fun _ => by decide⟩
  · rw [h1]; exact ⟨fun x => absurd x (by decide), fun x => by exfalso; grind⟩
set_option maxRecDepth 20000 in
theorem common_ct (h : Heap) (a1 b1 a2 b2 a3 b3 a4 b4 : Sl) (a b c d : Rat) (w1 : IsQ h a1 b1 a) (w2 : IsQ h a2 b2 b) (w3 : IsQ h a3 b3 c) (w4 : IsQ h a4 b4 d) (s1 : Sr 65536 a) (s2 : Sr 65536 b) (s3 : Sr 65536 c) (s4 : Sr 65536 d) :
    Fn0 T F.top_common [.agg #[.bool (sg a), a1.val, b1.val], .agg #[.bool (sg b), a2.val, b2.val], .agg #[.bool (sg c), a3.val, b3.val], .agg #[.bool (sg d), a4.val, b4.val]] h fun v h' => v = .bool (dec (a ≤ d ∧ c ≤ b)) := by
  have k1 := fun h w w' => RCmp_ct h a1 b1 a4 b4 a d w w' s1 s4
  have k2 := fun h w w' => RCmp_ct h a3 b3 a2 b2 c b w w' s3 s2
  have e1 := Hq.mk (cmp_le_iff (q := a) (r := d))
  have e2 := Hq.mk (cmp_le_iff (q := c) (r := b))
  obtain ⟨x, hx⟩ : ∃ x, x = cmpQ a d := ⟨_, rfl⟩
  obtain ⟨y, hy⟩ : ∃ x, x = cmpQ c b := ⟨_, rfl⟩
  rw [← hx] at k1 e1
  rw [← hy] at k2 e2
  clear hx hy
  refine fn0_of_codeI ok D.top_common rfl ?_
  conv => whnf
  repeat ((first | refine opsI.step ?_ | refine codeI.step ?_); conv => whnf)
  repeat' first
   | (show CallN _ _ _ _ _ _; first
     | (refine CallN.fn rfl (k1 _ (by assumption) (by assumption)) (fun v h' hl hr => ?_); subst hr; conv => whnf)
     | (refine CallN.fn rfl (k2 _ (by (iterate 30 (try first | assumption | refine IsQ.mono ?_ (by assumption))); first | done | assumption) (by (iterate 30 (try first | assumption | refine IsQ.mono ?_ (by assumption))); first | done | assumption)) (fun v h' hl hr => ?_); subst hr; conv => whnf))
   | ((first | refine opsI.step ?_ | refine codeI.step ?_); conv => whnf)
   | (intro (_ : Nat); conv => whnf)
   | (show cnd _ _ _; first
     | (refine cnd_le (fun _ => ?_) (fun _ => ?_) <;> first | (exfalso; omega) | (conv => whnf)))
   | (show LdN _ _ _ _ _; first
     | (refine LdN.own 0 rfl rfl ?_; conv => whnf)
     | (refine LdN.own 1 rfl rfl ?_; conv => whnf)
     | (refine LdN.own 2 rfl rfl ?_; conv => whnf)
     | (refine LdN.own 3 rfl rfl ?_; conv => whnf))
  all_goals
    refine RetN.all ?_
    first
      | (by_cases g : a ≤ d ∧ c ≤ b
         · rw [dec_true g, le_true' (e2.out.2 g.2)]
         · rw [dec_false g, le_false' (Int.not_le.1 fun x => g ⟨e1.out.1 (by omega), e2.out.1 x⟩)])
      | (rw [dec_false (fun g => absurd (e1.out.2 g.1) (by omega))])
set_option maxRecDepth 20000 in
theorem Least_ct (h : Heap) (a1 b1 a2 b2 : Sl) (a b : Rat) (k : Nat) (hk : k ≤ 65536) (w1 : IsQ h a1 b1 a) (w2 : IsQ h a2 b2 b) (s1 : Sr k a) (s2 : Sr k b) :
    Fn0 T F.ref01_Least [.agg #[.bool (sg a), a1.val, b1.val], .agg #[.bool (sg b), a2.val, b2.val]] h fun v h' => ∃ (r : Rat) (c d : Sl), v = .agg #[.bool (sg r), c.val, d.val] ∧ IsQ h' c d r ∧ Sr k r ∧ r ≤ a ∧ r ≤ b := by
  have k1 := fun h w w' => RCmp_ct h a2 b2 a1 b1 b a w w' (s2.mono hk) (s1.mono hk)
  have e1 := Hq.mk (cmp_le_iff (q := b) (r := a))
  have e2 := Hq.mk (cmpQ_lt (q := b) (r := a))
  have bd := cmp_bound b a
  obtain ⟨x, hx⟩ : ∃ x, x = cmpQ b a := ⟨_, rfl⟩
  rw [← hx] at k1 e1 e2 bd
  clear hx
  refine fn0_of_codeI ok D.ref01_Least rfl ?_
  conv => whnf
  repeat ((first | refine opsI.step ?_ | refine codeI.step ?_); conv => whnf)
  repeat' first
   | (show CallN _ _ _ _ _ _; first
     | (refine CallN.fn rfl (k1 _ (by assumption) (by assumption)) (fun v h' hl hr => ?_); subst hr; conv => whnf))
   | ((first | refine opsI.step ?_ | refine codeI.step ?_); conv => whnf)
   | (intro (_ : Nat); conv => whnf)
   | (show cnd _ _ _; first
     | (refine cnd_lt (fun _ => ?_) (fun _ => ?_) <;> first | (exfalso; omega) | (conv => whnf)))
   | (show LdN _ _ _ _ _; first
     | (refine LdN.own 0 rfl rfl ?_; conv => whnf)
     | (refine LdN.own 1 rfl rfl ?_; conv => whnf)
     | (refine LdN.own 2 rfl rfl ?_; conv => whnf))
   | (show Sto _ _ _ _; first
     | (refine Sto.lit 0 rfl rfl rfl ?_; conv => whnf))
  all_goals first
    | exact RetN.all ⟨b, _, _, rfl, (by (iterate 30 (try first | assumption | refine IsQ.mono ?_ (by assumption))); first | done | assumption), s2, e1.out.1 (by omega), Rat.le_refl⟩
    | exact RetN.all ⟨a, _, _, rfl, (by (iterate 30 (try first | assumption | refine IsQ.mono ?_ (by assumption))); first | done | assumption), s1, Rat.le_refl, by have := mt e2.out.2 (by omega); grind⟩
set_option maxRecDepth 20000 in
theorem Most_ct (h : Heap) (a1 b1 a2 b2 : Sl) (a b : Rat) (k : Nat) (hk : k ≤ 65536) (w1 : IsQ h a1 b1 a) (w2 : IsQ h a2 b2 b) (s1 : Sr k a) (s2 : Sr k b) :
    Fn0 T F.ref01_Most [.agg #[.bool (sg a), a1.val, b1.val], .agg #[.bool (sg b), a2.val, b2.val]] h fun v h' => ∃ (r : Rat) (c d : Sl), v = .agg #[.bool (sg r), c.val, d.val] ∧ IsQ h' c d r ∧ Sr k r ∧ a ≤ r ∧ b ≤ r := by
  have k1 := fun h w w' => RCmp_ct h a2 b2 a1 b1 b a w w' (s2.mono hk) (s1.mono hk)
  have e1 := Hq.mk (cmp_le_iff (q := b) (r := a))
  have e2 := Hq.mk (cmpQ_gt (q := b) (r := a))
  have bd := cmp_bound b a
  obtain ⟨x, hx⟩ : ∃ x, x = cmpQ b a := ⟨_, rfl⟩
  rw [← hx] at k1 e1 e2 bd
  clear hx
  refine fn0_of_codeI ok D.ref01_Most rfl ?_
  conv => whnf
  repeat ((first | refine opsI.step ?_ | refine codeI.step ?_); conv => whnf)
  repeat' first
   | (show CallN _ _ _ _ _ _; first
     | (refine CallN.fn rfl (k1 _ (by assumption) (by assumption)) (fun v h' hl hr => ?_); subst hr; conv => whnf))
   | ((first | refine opsI.step ?_ | refine codeI.step ?_); conv => whnf)
   | (intro (_ : Nat); conv => whnf)
   | (show cnd _ _ _; first
     | (refine cnd_lt (fun _ => ?_) (fun _ => ?_) <;> first | (exfalso; omega) | (conv => whnf)))
   | (show LdN _ _ _ _ _; first
     | (refine LdN.own 0 rfl rfl ?_; conv => whnf)
     | (refine LdN.own 1 rfl rfl ?_; conv => whnf)
     | (refine LdN.own 2 rfl rfl ?_; conv => whnf))
   | (show Sto _ _ _ _; first
     | (refine Sto.lit 0 rfl rfl rfl ?_; conv => whnf))
  all_goals first
    | exact RetN.all ⟨b, _, _, rfl, (by (iterate 30 (try first | assumption | refine IsQ.mono ?_ (by assumption))); first | done | assumption), s2, by have := e2.out.1 (by omega); grind, Rat.le_refl⟩
    | exact RetN.all ⟨a, _, _, rfl, (by (iterate 30 (try first | assumption | refine IsQ.mono ?_ (by assumption))); first | done | assumption), s1, Rat.le_refl, e1.out.1 (by omega)⟩
end Go.Proofs.YtdemgbmndijkkaaGreatDoor