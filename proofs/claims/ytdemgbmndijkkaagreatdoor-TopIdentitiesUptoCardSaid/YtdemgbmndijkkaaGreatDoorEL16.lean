/- Package elem: exact values; the argument made ready. -/
import Derived.Test.YtdemgbmndijkkaaGreatDoorEL15
set_option linter.unusedVariables false
set_option linter.unusedSimpArgs false
namespace Go.Proofs.YtdemgbmndijkkaaGreatDoor
open Go Go.Vc Go.Dig
/-- whether a function's value is known exactly, and which it is -/
def exQ (fn : Nat) (q : Rat) : Prop := if fn = 2 then q = 1 else q = 0
instance (fn : Nat) (q : Rat) : Decidable (exQ fn q) := by unfold exQ; exact inferInstance
def exV (fn : Nat) : Rat := if fn = 1 ∨ fn = 4 then 1 else 0
set_option maxRecDepth 20000 in
theorem exact_ct (h : Heap) (a b : Sl) (q : Rat) (fn : Nat) (h1 : 1 ≤ fn) (h4 : fn ≤ 4) (w : IsRat h a b q) (f : fits q) : Fn0 T F.elem_exact [.int .i64 fn, .agg #[.bool (sg q), a.val, b.val]] h fun v h' =>
    ∃ (c d : Sl) (r : Rat), v = .tuple #[.agg #[.bool (sg r), c.val, d.val], .bool (dec (exQ fn q))] ∧ IsRat h' c d r ∧ (exQ fn q → r = exV fn) := by
  have wl := w.num.len
  have hz := ln_eq_zero two_le_B (n := nu q)
  have hd : a.l = 0 ↔ q = 0 := by rw [wl, ← nu_eq_zero]; exact hz
  have k1 := fun h w => isOne_ct h a b q w f
  have kf := fun h => NFromInt_ct h 1 (by omega) (by omega)
  rw [show ((1 : Int) : Rat) = 1 from rfl] at kf
  replace hd := Hq.mk hd
  clear wl hz
  have hf : fn = 1 ∨ fn = 2 ∨ fn = 3 ∨ fn = 4 := by omega
  have x1 : exV 1 = 1 := rfl
  have x4 : exV 4 = 1 := rfl
  have x2 : exV 2 = 0 := rfl
  have x3 : exV 3 = 0 := rfl
  have c2 : dec (exQ 2 q) = dec (q = 1) := rfl
  have c1 : ∀ n, n ≠ 2 → (exQ n q ↔ q = 0) := fun n hn => by unfold exQ; rw [if_neg hn]
  obtain ⟨s, hs⟩ : ∃ s, s = sg q := ⟨_, rfl⟩
  rw [← hs] at k1 ⊢
  refine fn0_of_codeI ok D.elem_exact rfl ?_
  rcases hf with rfl | rfl | rfl | rfl
  all_goals
    conv => whnf
  all_goals (repeat' first
     | (show SeqN _ _ _ _ _ _ _; first
       | (refine SeqN.go ?_; conv => whnf))
     | (show DrawN _ _ _ _ _ _; first
       | (refine DrawN.own [_] (by exact List.Sublist.cons _ (List.Sublist.cons_cons _ (List.nil_sublist _))) (by decide +kernel) ?_; conv => whnf))
     | (refine ⟨fun _ => ⟨HasLe.of_le (by first | exact Heap.le_refl _ | assumption | exact Heap.le_trans (by assumption) (by assumption)), by repeat first | exact List.nil_sublist _ | apply List.Sublist.cons_cons | apply List.Sublist.cons⟩, ?_⟩; conv => whnf)
     | ((first | refine opsI.step ?_ | refine codeI.step ?_); conv => whnf)
     | (intro (_ : Nat); conv => whnf)
     | (show CallN _ _ _ _ _ _; first
       | (refine CallN.fn rfl (k1 _ (by assumption)) (fun v h' hl hr => ?_); subst hr; conv => whnf)
       | (refine CallN.fn rfl (kf _) (fun v h' hl hr => ?_); obtain ⟨c, d, rfl, hr'⟩ := hr; conv => whnf))
     | (show cnd _ _ _; first
       | (refine cnd_eq (fun _ => ?_) (fun _ => ?_) <;> first | (exfalso; omega) | (conv => whnf)))
     | (show LdN _ _ _ _ _; first
       | (refine LdN.own 0 rfl rfl ?_; conv => whnf)
       | (refine LdN.own 1 rfl rfl ?_; conv => whnf))
     | (show Ld _ _ _ _; first
       | (refine Ld.own 0 rfl rfl ?_; conv => whnf)
       | (refine Ld.own 1 rfl rfl ?_; conv => whnf))
     | (show Sto _ _ _ _; first
       | (refine Sto.lit 0 rfl rfl rfl ?_; conv => whnf)))
  all_goals first
    | exact RetN.all ⟨_, _, _, by rw [dec_true ((c1 _ (by decide)).2 (hd.out.1 (by omega)))] <;> rfl, hr', fun _ => x1.symm⟩
    | exact RetN.all ⟨⟨none, 0, 0⟩, ⟨none, 0, 0⟩, 0, by rw [dec_false (fun e => absurd (hd.out.2 ((c1 _ (by decide)).1 e)) (by omega)), sg_zero] <;> rfl, IsRat.zero _, fun e => absurd (hd.out.2 ((c1 _ (by decide)).1 e)) (by omega)⟩
    | exact RetN.all ⟨⟨none, 0, 0⟩, ⟨none, 0, 0⟩, 0, by rw [c2, sg_zero] <;> rfl, IsRat.zero _, fun _ => x2.symm⟩
    | (refine RetN.all ⟨⟨none, 0, 0⟩, ⟨none, 0, 0⟩, 0, ?_, IsRat.zero _, fun _ => x3.symm⟩
       by_cases g : q = 0
       · have := hd.out.2 g
         rw [dec_true ((c1 3 (by decide)).2 g), Vc.eq_true' (by omega), sg_zero] <;> rfl
       · have : a.l ≠ 0 := fun x => g (hd.out.1 x)
         rw [dec_false (fun e => g ((c1 3 (by decide)).1 e)), Vc.eq_false' (by omega), sg_zero] <;> rfl)
    | skip
set_option maxRecDepth 20000 in
set_option maxHeartbeats 2000000 in
theorem ready_ct (h : Heap) (tb : Tb h) (a b : Sl) (q : Rat) (fn : Nat) (p : Int) (h1 : 1 ≤ fn) (h4 : fn ≤ 4) (w : IsRat h a b q) (hs : Sz 1073741824 q) : Fn0 T F.elem_ready [.int .i64 fn, .agg #[.bool (sg q), a.val, b.val], .int .i64 p] h fun v h' =>
    ∃ (c d : Sl) (r : Rat) (e : Int), v = .tuple #[.agg #[.bool (sg r), c.val, d.val], .int .i64 e] ∧ IsRat h' c d r ∧ (e = 0 ↔ Rdy fn q p) ∧ (e = 0 → r = q) := by
  have kk := fun h tb w => known_ct h tb a b q fn h1 h4 w hs
  by_cases f : fits q
  · rw [show outR q = (q, 0) from if_pos f] at kk
    have kd := fun h a b w => defined_ct h a b q fn h1 h4 w
    have kt := fun h a b w => tooLong_ct h a b q (sg q) w f
    have k64 := fun h a b w => beyond_ct h a b q (sg q) 64 (by omega) w f
    have k32 := fun h a b w => beyond_ct h a b q (sg q) 4294967296 (by omega) w f
    have rdy : Rdy fn q p ↔ (0 ≤ p ∧ p ≤ 128) ∧ (fn = 2 → sg q = false ∧ nu q ≠ 0) ∧ (bl (nu q) ≤ 1024 ∧ bl q.den ≤ 1024) ∧ (fn = 1 → nu q ≤ 64 * q.den) ∧ (fn = 3 ∨ fn = 4 → nu q ≤ 4294967296 * q.den) :=
      ⟨fun r => ⟨⟨r.lo, r.hi⟩, r.df, ⟨r.b1, r.b2⟩, r.ex, r.tr⟩, fun r => ⟨f, r.1.1, r.1.2, r.2.1, r.2.2.1.1, r.2.2.1.2, r.2.2.2.1, r.2.2.2.2⟩⟩
    have hfn : fn = 1 ∨ fn = 2 ∨ fn = 3 ∨ fn = 4 := by omega
    clear rdy
    refine fn0_of_codeI ok D.elem_ready rfl ?_
    rcases hfn with rfl | rfl | rfl | rfl
    all_goals
      conv => whnf
    all_goals (repeat' first
       | (show SeqN _ _ _ _ _ _ _; first
         | (refine SeqN.go ?_; conv => whnf))
       | (show CallN _ _ _ _ _ _; first
         | (refine CallN.fn rfl (kk _ (by assumption) (by assumption)) (fun v h' hl hr => ?_); obtain ⟨a', b', rfl, hr'⟩ := hr; conv => whnf)
         | (refine CallN.fn rfl (kd _ _ _ (by assumption)) (fun v h' hl hr => ?_); subst hr; conv => whnf)
         | (refine CallN.fn rfl (kt _ _ _ (by (iterate 30 (try first | assumption | refine IsRat.mono ?_ (by assumption))); first | done | assumption)) (fun v h' hl hr => ?_); subst hr; conv => whnf)
         | (refine CallN.fn rfl (k64 _ _ _ (by (iterate 30 (try first | assumption | refine IsRat.mono ?_ (by assumption))); first | done | assumption)) (fun v h' hl hr => ?_); subst hr; conv => whnf)
         | (refine CallN.fn rfl (k32 _ _ _ (by (iterate 30 (try first | assumption | refine IsRat.mono ?_ (by assumption))); first | done | assumption)) (fun v h' hl hr => ?_); subst hr; conv => whnf))
       | ((first | refine opsI.step ?_ | refine codeI.step ?_); conv => whnf)
       | (intro (_ : Nat); conv => whnf)
       | (show cnd _ _ _; first
         | (refine cnd_lt (fun _ => ?_) (fun _ => ?_) <;> first | (exfalso; omega) | (conv => whnf))
         | (refine cnd_eq (fun _ => ?_) (fun _ => ?_) <;> first | (exfalso; omega) | (conv => whnf))
         | (refine cnd_not ?_)
         | (refine cnd_dec (fun _ => ?_) (fun _ => ?_) <;> first | (exfalso; omega) | (conv => whnf)))
       | (show LdN _ _ _ _ _; first
         | (refine LdN.own 0 rfl rfl ?_; conv => whnf)
         | (refine LdN.own 1 rfl rfl ?_; conv => whnf))
       | (show Sto _ _ _ _; first
         | (refine Sto.lit 0 rfl rfl rfl ?_; conv => whnf)
         | (refine Sto.lit 1 rfl rfl rfl ?_; conv => whnf)))
    all_goals first
      | exact RetN.all ⟨_, _, _, _, rfl, (by (iterate 30 (try first | assumption | refine IsRat.mono ?_ (by assumption))); first | done | assumption), ⟨fun x => absurd x (by decide), fun x => by have := x.lo; have := x.hi; exfalso; omega⟩, fun x => absurd x (by decide)⟩
      | exact RetN.all ⟨_, _, _, _, rfl, (by (iterate 30 (try first | assumption | refine IsRat.mono ?_ (by assumption))); first | done | assumption), ⟨fun x => absurd x (by decide), fun x => absurd x.df (by assumption)⟩, fun x => absurd x (by decide)⟩
      | exact RetN.all ⟨_, _, _, _, rfl, (by (iterate 30 (try first | assumption | refine IsRat.mono ?_ (by assumption))); first | done | assumption), ⟨fun x => absurd x (by decide), fun x => absurd (⟨x.b1, x.b2⟩ : bl (nu q) ≤ 1024 ∧ bl q.den ≤ 1024) (by assumption)⟩, fun x => absurd x (by decide)⟩
      | exact RetN.all ⟨_, _, _, _, rfl, (by (iterate 30 (try first | assumption | refine IsRat.mono ?_ (by assumption))); first | done | assumption), ⟨fun x => absurd x (by decide), fun x => absurd (x.ex rfl) (by assumption)⟩, fun x => absurd x (by decide)⟩
      | exact RetN.all ⟨_, _, _, _, rfl, (by (iterate 30 (try first | assumption | refine IsRat.mono ?_ (by assumption))); first | done | assumption), ⟨fun x => absurd x (by decide), fun x => absurd (x.tr (.inl rfl)) (by assumption)⟩, fun x => absurd x (by decide)⟩
      | exact RetN.all ⟨_, _, _, _, rfl, (by (iterate 30 (try first | assumption | refine IsRat.mono ?_ (by assumption))); first | done | assumption), ⟨fun x => absurd x (by decide), fun x => absurd (x.tr (.inr rfl)) (by assumption)⟩, fun x => absurd x (by decide)⟩
      | exact RetN.all ⟨_, _, _, _, rfl, (by (iterate 30 (try first | assumption | refine IsRat.mono ?_ (by assumption))); first | done | assumption), ⟨fun _ => ⟨f, by omega, by omega, (by first | assumption | exact fun x => absurd x (by decide)), (Decidable.of_not_not (p := bl (nu q) ≤ 1024 ∧ bl q.den ≤ 1024) (by assumption)).1, (Decidable.of_not_not (p := bl (nu q) ≤ 1024 ∧ bl q.den ≤ 1024) (by assumption)).2, (by first | exact fun x => absurd x (by decide) | exact fun _ => Decidable.of_not_not (by assumption)), (by first | exact fun x => absurd x (by decide) | exact fun _ => Decidable.of_not_not (by assumption))⟩, fun _ => rfl⟩, fun _ => rfl⟩
      | skip
  · rw [show outR q = (0, 1) from if_neg f] at kk
    have nr : ¬ Rdy fn q p := fun r => f r.ft
    refine fn0_of_codeI ok D.elem_ready rfl ?_
    conv => whnf
    repeat ((first | refine opsI.step ?_ | refine codeI.step ?_); conv => whnf)
    repeat' first
     | (show CallN _ _ _ _ _ _; first
       | (refine CallN.fn rfl (kk _ (by assumption) (by assumption)) (fun v h' hl hr => ?_); obtain ⟨a', b', rfl, hr'⟩ := hr; conv => whnf))
     | ((first | refine opsI.step ?_ | refine codeI.step ?_); conv => whnf)
     | (intro (_ : Nat); conv => whnf)
     | (show cnd _ _ _; first
       | (refine cnd_eq (fun _ => ?_) (fun _ => ?_) <;> first | (exfalso; omega) | (conv => whnf)))
     | (show LdN _ _ _ _ _; first
       | (refine LdN.own 0 rfl rfl ?_; conv => whnf)
       | (refine LdN.own 1 rfl rfl ?_; conv => whnf))
     | (show Sto _ _ _ _; first
       | (refine Sto.lit 0 rfl rfl rfl ?_; conv => whnf)
       | (refine Sto.lit 1 rfl rfl rfl ?_; conv => whnf))
    all_goals exact RetN.all ⟨_, _, _, _, rfl, hr', ⟨fun x => absurd x (by decide), fun x => absurd x nr⟩, fun x => absurd x (by decide)⟩
end Go.Proofs.YtdemgbmndijkkaaGreatDoor