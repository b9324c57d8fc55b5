/- Package elem: sine, cosine, and the table of the functions. -/
import Derived.Test.YtdemgbmndijkkaaGreatDoorEL18
set_option linter.unusedVariables false
set_option linter.unusedSimpArgs false
namespace Go.Proofs.YtdemgbmndijkkaaGreatDoor
open Go Go.Vc Go.Dig
set_option maxRecDepth 20000 in
set_option maxHeartbeats 2000000 in
theorem ser_sin : Ser F.elem_sin 3 := fun h a b q p tb w r hx => by
  obtain ⟨P, hP⟩ : ∃ P : Nat, p = P := ⟨p.toNat, by have := r.lo; omega⟩
  have hp1 := r.lo
  have hp2 := r.hi
  obtain ⟨f, g, kq, y1, y2, lo, hi, Y, Z, k, s, c, ef, eg, n, es, ec, ns, nc, tS, tC⟩ := trig_nums (.inl rfl) r hP
  have kb := fun h tb w => both_ct h tb a b q f g kq y1 y2 lo hi (P + 64) Y Z k (p + 64) (by omega) w r.ft (by omega) (by omega) ef eg n
  rw [← es, ← ec] at kb
  clear es ec ef eg n
  obtain ⟨s1, s2⟩ := s
  obtain ⟨c1, c2⟩ := c
  have kr := fun h tb a b c d u v f1 f2 => rounded_ct h tb a b c d s1 s2 (P + 64) P p hP u v f1 f2 ns.1 ns.2 (by omega) (by omega)
  have gd := tS.mono (grid_le s1 P) (le_grid s2 P)
  obtain ⟨u1, hu1⟩ : ∃ u, u = gridQ s1 P false := ⟨_, rfl⟩
  obtain ⟨u2, hu2⟩ : ∃ u, u = gridQ s2 P true := ⟨_, rfl⟩
  rw [← hu1, ← hu2] at kr gd
  clear hu1 hu2 tS tC ns nc
  obtain ⟨t, ht⟩ : ∃ s, s = sg q := ⟨_, rfl⟩
  rw [← ht] at kb ⊢
  refine fn0_of_codeI ok D.elem_sin rfl ?_
  conv => whnf
  repeat ((first | refine opsI.step ?_ | refine codeI.step ?_); conv => whnf)
  repeat' first
   | (show LdN _ _ _ _ _; first
     | (refine LdN.ownAt 1 rfl rfl ?_; conv => whnf)
     | (refine LdN.ownAt 2 rfl rfl ?_; conv => whnf))
   | (show CallN _ _ _ _ _ _; first
     | (refine CallN.fn rfl (kb _ (by assumption) (by assumption)) (fun v h' hl hr => ?_); obtain ⟨v1, v2, rfl, ⟨a1, b1, a2, b2, rfl, hr1, hr2, hf1, hf2⟩, ⟨a3, b3, a4, b4, rfl, hr3, hr4, hf3, hf4⟩⟩ := hr; conv => whnf)
     | (refine CallN.fn rfl (kr _ (by (iterate 30 (try first | assumption | refine Tb.mono ?_ (by assumption))); first | done | assumption) _ _ _ _ (hr1.mono (by (iterate 30 (try first | assumption | exact Heap.le_refl _)); first | done | assumption)) (hr2.mono (by (iterate 30 (try first | assumption | exact Heap.le_refl _)); first | done | assumption)) hf1 hf2) (fun v h' hl hr => ?_); obtain ⟨a5, b5, a6, b6, rfl, hr5, hr6, hf5, hf6⟩ := hr; conv => whnf))
   | ((first | refine opsI.step ?_ | refine codeI.step ?_); conv => whnf)
   | (intro (_ : Nat); conv => whnf)
   | (show WrapN _ _ _; first
     | (refine WrapN.i64 (by omega) (by omega) ?_; conv => whnf))
   | (show Sto _ _ _ _; first
     | (refine Sto.lit 0 rfl rfl rfl ?_; conv => whnf)
     | (refine Sto.lit 1 rfl rfl rfl ?_; conv => whnf)
     | (refine Sto.lit 2 rfl rfl rfl ?_; conv => whnf))
  all_goals exact RetN.all ⟨_, u1, u2, rfl, ⟨_, _, _, _, rfl, (by assumption), (by assumption), hf5, hf6⟩, fun x => absurd x (by decide), fun x => absurd x (by decide), fun _ => gd, fun x => absurd x (by decide)⟩
set_option maxRecDepth 20000 in
set_option maxHeartbeats 2000000 in
theorem ser_cos : Ser F.elem_cos 4 := fun h a b q p tb w r hx => by
  obtain ⟨P, hP⟩ : ∃ P : Nat, p = P := ⟨p.toNat, by have := r.lo; omega⟩
  have hp1 := r.lo
  have hp2 := r.hi
  obtain ⟨f, g, kq, y1, y2, lo, hi, Y, Z, k, s, c, ef, eg, n, es, ec, ns, nc, tS, tC⟩ := trig_nums (.inr rfl) r hP
  have kb := fun h tb w => both_ct h tb a b q f g kq y1 y2 lo hi (P + 64) Y Z k (p + 64) (by omega) w r.ft (by omega) (by omega) ef eg n
  rw [← es, ← ec] at kb
  clear es ec ef eg n
  obtain ⟨s1, s2⟩ := s
  obtain ⟨c1, c2⟩ := c
  have kr := fun h tb a b c d u v f1 f2 => rounded_ct h tb a b c d c1 c2 (P + 64) P p hP u v f1 f2 nc.1 nc.2 (by omega) (by omega)
  have gd := tC.mono (grid_le c1 P) (le_grid c2 P)
  obtain ⟨u1, hu1⟩ : ∃ u, u = gridQ c1 P false := ⟨_, rfl⟩
  obtain ⟨u2, hu2⟩ : ∃ u, u = gridQ c2 P true := ⟨_, rfl⟩
  rw [← hu1, ← hu2] at kr gd
  clear hu1 hu2 tS tC ns nc
  obtain ⟨t, ht⟩ : ∃ s, s = sg q := ⟨_, rfl⟩
  rw [← ht] at kb ⊢
  refine fn0_of_codeI ok D.elem_cos rfl ?_
  conv => whnf
  repeat ((first | refine opsI.step ?_ | refine codeI.step ?_); conv => whnf)
  repeat' first
   | (show LdN _ _ _ _ _; first
     | (refine LdN.ownAt 0 rfl rfl ?_; conv => whnf)
     | (refine LdN.ownAt 1 rfl rfl ?_; conv => whnf)
     | (refine LdN.ownAt 2 rfl rfl ?_; conv => whnf))
   | (show CallN _ _ _ _ _ _; first
     | (refine CallN.fn rfl (kb _ (by assumption) (by assumption)) (fun v h' hl hr => ?_); obtain ⟨v1, v2, rfl, ⟨a1, b1, a2, b2, rfl, hr1, hr2, hf1, hf2⟩, ⟨a3, b3, a4, b4, rfl, hr3, hr4, hf3, hf4⟩⟩ := hr; conv => whnf)
     | (refine CallN.fn rfl (kr _ (by (iterate 30 (try first | assumption | refine Tb.mono ?_ (by assumption))); first | done | assumption) _ _ _ _ (hr3.mono (by (iterate 30 (try first | assumption | exact Heap.le_refl _)); first | done | assumption)) (hr4.mono (by (iterate 30 (try first | assumption | exact Heap.le_refl _)); first | done | assumption)) hf3 hf4) (fun v h' hl hr => ?_); obtain ⟨a5, b5, a6, b6, rfl, hr5, hr6, hf5, hf6⟩ := hr; conv => whnf))
   | ((first | refine opsI.step ?_ | refine codeI.step ?_); conv => whnf)
   | (intro (_ : Nat); conv => whnf)
   | (show WrapN _ _ _; first
     | (refine WrapN.i64 (by omega) (by omega) ?_; conv => whnf))
   | (show Sto _ _ _ _; first
     | (refine Sto.lit 0 rfl rfl rfl ?_; conv => whnf)
     | (refine Sto.lit 1 rfl rfl rfl ?_; conv => whnf)
     | (refine Sto.lit 2 rfl rfl rfl ?_; conv => whnf))
  all_goals exact RetN.all ⟨_, u1, u2, rfl, ⟨_, _, _, _, rfl, (by assumption), (by assumption), hf5, hf6⟩, fun x => absurd x (by decide), fun x => absurd x (by decide), fun x => absurd x (by decide), fun _ => gd⟩
set_option maxRecDepth 20000 in
set_option maxHeartbeats 2000000 in
theorem Exp_gen (G : Rat → Rat → Prop) (h : Heap) (tb : Tb h) (a b : Sl) (q : Rat) (p : Int) (ser : SerG G F.elem_exp 1 q p) (good : exQ 1 q → G (exV 1) (exV 1)) (w : IsRat h a b q) (hs : Sz 1073741824 q) : Fn0 T F.elem_Exp [.agg #[.bool (sg q), a.val, b.val], .int .i64 p] h fun v h' => ResG G h' v 1 q p := by
  have k := fun h tb w => apply_gen G h tb a b q 1 p F.elem_exp rfl ser good (by decide) (by decide) w hs
  obtain ⟨t, ht⟩ : ∃ s, s = sg q := ⟨_, rfl⟩
  rw [← ht] at k ⊢
  refine fn0_of_codeI ok D.elem_Exp rfl ?_
  conv => whnf
  repeat ((first | refine opsI.step ?_ | refine codeI.step ?_); conv => whnf)
  repeat' first
   | (show LdN _ _ _ _ _; first
     | (refine LdN.ownAt 0 rfl rfl ?_; conv => whnf)
     | (refine LdN.ownAt 1 rfl rfl ?_; conv => whnf))
   | (show CallN _ _ _ _ _ _; first
     | (refine CallN.fn rfl (k _ (by assumption) (by assumption)) (fun v h' hl hr => ?_); obtain ⟨v', e, lo, hi, rfl, ⟨a1, b1, a2, b2, rfl, hr1, hr2, hf1, hf2⟩, he, gd⟩ := hr; conv => whnf))
   | ((first | refine opsI.step ?_ | refine codeI.step ?_); conv => whnf)
   | (intro (_ : Nat); conv => whnf)
   | (show Sto _ _ _ _; first
     | (refine Sto.lit 0 rfl rfl rfl ?_; conv => whnf))
  all_goals exact RetN.all ⟨_, e, lo, hi, rfl, ⟨_, _, _, _, rfl, (by assumption), (by assumption), hf1, hf2⟩, he, gd⟩
set_option maxRecDepth 20000 in
set_option maxHeartbeats 4000000 in
theorem Apply_ct (h : Heap) (tb : Tb h) (a b : Sl) (q : Rat) (fn : Nat) (p : Int) (h1 : 1 ≤ fn) (h4 : fn ≤ 4) (w : IsRat h a b q) (hs : Sz 1073741824 q) : Fn0 T F.elem_Apply [.int .i64 fn, .agg #[.bool (sg q), a.val, b.val], .int .i64 p] h fun v h' => ResB h' v fn q p := by
  have ka := fun h tb w => apply_ct h tb a b q 1 p F.elem_exp rfl ser_exp (by decide) (by decide) w hs
  have kb := fun h tb w => apply_ct h tb a b q 2 p F.elem_log rfl ser_log (by decide) (by decide) w hs
  have kc := fun h tb w => apply_ct h tb a b q 3 p F.elem_sin rfl ser_sin (by decide) (by decide) w hs
  have kd := fun h tb w => apply_ct h tb a b q 4 p F.elem_cos rfl ser_cos (by decide) (by decide) w hs
  obtain ⟨t, ht⟩ : ∃ s, s = sg q := ⟨_, rfl⟩
  rw [← ht] at ka kb kc kd ⊢
  have hfn : fn = 1 ∨ fn = 2 ∨ fn = 3 ∨ fn = 4 := by omega
  refine fn0_of_codeI ok D.elem_Apply rfl ?_
  rcases hfn with rfl | rfl | rfl | rfl
  all_goals
    conv => whnf
  all_goals (repeat' first
     | (show Idx _ _ _ _ _; first
       | (refine Idx.of 0 rfl (by omega) (by omega) ?_; conv => whnf)
       | (refine Idx.of 1 rfl (by omega) (by omega) ?_; conv => whnf)
       | (refine Idx.of 2 rfl (by omega) (by omega) ?_; conv => whnf)
       | (refine Idx.of 3 rfl (by omega) (by omega) ?_; conv => whnf))
     | (show LdN _ _ _ _ _; first
       | (refine LdN.ownAt 1 rfl rfl ?_; conv => whnf)
       | (refine LdN.ownAt 2 rfl rfl ?_; conv => whnf))
     | (show DrawN _ _ _ _ _ _; first
       | (refine DrawN.run (by decide +kernel) ?_; conv => whnf))
     | (show CallN _ _ _ _ _ _; first
       | (refine CallN.fn rfl (ka _ (by assumption) (by assumption)) (fun v h' hl hr => ?_); obtain ⟨v', e, lo, hi, rfl, ⟨a1, b1, a2, b2, rfl, hr1, hr2, hf1, hf2⟩, he, gd⟩ := hr; conv => whnf)
       | (refine CallN.fn rfl (kb _ (by assumption) (by assumption)) (fun v h' hl hr => ?_); obtain ⟨v', e, lo, hi, rfl, ⟨a1, b1, a2, b2, rfl, hr1, hr2, hf1, hf2⟩, he, gd⟩ := hr; conv => whnf)
       | (refine CallN.fn rfl (kc _ (by assumption) (by assumption)) (fun v h' hl hr => ?_); obtain ⟨v', e, lo, hi, rfl, ⟨a1, b1, a2, b2, rfl, hr1, hr2, hf1, hf2⟩, he, gd⟩ := hr; conv => whnf)
       | (refine CallN.fn rfl (kd _ (by assumption) (by assumption)) (fun v h' hl hr => ?_); obtain ⟨v', e, lo, hi, rfl, ⟨a1, b1, a2, b2, rfl, hr1, hr2, hf1, hf2⟩, he, gd⟩ := hr; conv => whnf))
     | ((first | refine opsI.step ?_ | refine codeI.step ?_); conv => whnf)
     | (refine ⟨fun _ => HasLe.of_le (by assumption), ?_⟩; conv => whnf)
     | (refine ⟨fun hst => (by cases (show true = false from hst)), ?_⟩; conv => whnf)
     | (intro (_ : Nat); conv => whnf)
     | (show WrapN _ _ _; first
       | (refine WrapN.i64 (by omega) (by omega) ?_; conv => whnf))
     | (show cnd _ _ _; first
       | (refine cnd_lt (fun _ => ?_) (fun _ => ?_) <;> first | (exfalso; omega) | (conv => whnf)))
     | (show Ld _ _ _ _; first
       | (refine Ld.own 0 rfl rfl ?_; conv => whnf))
     | (show Sto _ _ _ _; first
       | (refine Sto.lit 1 rfl rfl rfl ?_; conv => whnf)))
  all_goals exact RetN.all ⟨_, e, lo, hi, rfl, ⟨_, _, _, _, rfl, (by assumption), (by assumption), hf1, hf2⟩, he, gd⟩
end Go.Proofs.YtdemgbmndijkkaaGreatDoor