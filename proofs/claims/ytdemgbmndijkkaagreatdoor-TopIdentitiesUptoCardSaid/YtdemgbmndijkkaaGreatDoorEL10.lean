/- Package elem: the cosine of a span, integers modulo 4. -/
import Derived.Test.YtdemgbmndijkkaaGreatDoorEL9
set_option linter.unusedVariables false
set_option linter.unusedSimpArgs false
namespace Go.Proofs.YtdemgbmndijkkaaGreatDoor
open Go Go.Vc Go.Dig
theorem cmpI_neg {m n : Nat} : cmpI m n < 0 ↔ m < n := by
  unfold cmpI
  split
  · rename_i h; exact ⟨fun _ => by omega, fun _ => by decide⟩
  · rename_i h
    split
    · exact ⟨fun x => absurd x (by decide), fun x => by omega⟩
    · exact ⟨fun x => absurd x (by decide), fun x => by omega⟩
set_option maxRecDepth 20000 in
set_option maxHeartbeats 4000000 in
theorem cosine_ct (h : Heap) (tb : Tb h) (a b c d : Sl) (q r : Rat) (w Y Z : Nat) (x : Int) (hx : x = w) (hq : IsRat h a b q) (hr : IsRat h c d r) (fq : fits q) (fr : fits r) (gq : OnG q w Y) (gr : OnG r w Z) (hw : w ≤ 200) :
    Fn0 T F.elem_cosine [.agg #[.bool (sg q), a.val, b.val, .bool (sg r), c.val, d.val], .int .i64 x] h fun v h' => BrR h' v (An.cAt (sg q) (sg r) Y Z w).1 (An.cAt (sg q) (sg r) Y Z w).2 := by
  subst hx
  have lw : ln 4294967296 (2 ^ w) ≤ 60 := ln_two_pow_le (by omega)
  have y1 := gq.le
  have y2 := gr.le
  have k1 := fun h tb hq => natural_ct h tb (sg q) a b q w Y (w : Int) rfl hq fq (by omega) gq.y
  have k2 := fun h tb hr => natural_ct h tb (sg r) c d r w Z (w : Int) rfl hr fr (by omega) gr.y
  have ly := Nat.le_trans (ln_le_of_le y1) lw
  have lz := Nat.le_trans (ln_le_of_le y2) lw
  have wv := fun h tb s y k ns hk hy => waves_ct h tb s y k w 0 (w : Int) 1 rfl rfl ns hk hy hw (by omega)
  have r1 := fun h tb s y k ns => rational_ct h tb s (An.wvA y w 0).1 k w false (w : Int) rfl ns (Nat.le_trans (ln_le_of_le (An.wvA_le y w 0).1) (by omega)) (by omega)
  have r2 := fun h tb s y k ns => rational_ct h tb s (An.wvA y w 0).2 k w false (w : Int) rfl ns (Nat.le_trans (ln_le_of_le (An.wvA_le y w 0).2) (by omega)) (by omega)
  have e1 : (An.cAt (sg q) (sg r) Y Z w).1 = mkQ false (An.wvA (max Y Z) w 0).1 (2 ^ w) := (mkQ_pow2 _ _).symm
  have e2 : (An.cAt (sg q) (sg r) Y Z w).2 = mkQ false (An.wvA (if (sg q = true ∧ sg r = false) ∨ Y = 0 ∨ Z = 0 then 0 else min Y Z) w 0).2 (2 ^ w) := (mkQ_pow2 _ _).symm
  obtain ⟨C1, hC1⟩ : ∃ C, C = (An.cAt (sg q) (sg r) Y Z w).1 := ⟨_, rfl⟩
  obtain ⟨C2, hC2⟩ : ∃ C, C = (An.cAt (sg q) (sg r) Y Z w).2 := ⟨_, rfl⟩
  rw [← hC1] at e1 ⊢
  rw [← hC2] at e2 ⊢
  have al := hq.num.len
  have cl := hr.num.len
  have z1 := gq.zero
  have z2 := gr.zero
  have z3 := ln_eq_zero two_le_B (n := nu q)
  have z4 := ln_eq_zero two_le_B (n := nu r)
  have a0 : a.l = 0 ↔ Y = 0 := by rw [z1, ← z3, al]
  have c0 : c.l = 0 ↔ Z = 0 := by rw [z2, ← z4, cl]
  clear z1 z2 z3 z4 al cl hC1 hC2
  obtain ⟨s1, hs1⟩ : ∃ s, s = sg q := ⟨_, rfl⟩
  obtain ⟨s2, hs2⟩ : ∃ s, s = sg r := ⟨_, rfl⟩
  rw [← hs1] at k1 e2 ⊢
  rw [← hs2] at k2 e2 ⊢
  replace a0 := Hq.mk a0
  replace c0 := Hq.mk c0
  replace e1 := Hq.mk e1
  replace e2 := Hq.mk e2
  refine fn0_of_codeI ok D.elem_cosine rfl ?_
  cases s1 <;> cases s2
  all_goals conv => whnf
  all_goals (repeat' first
     | (show SeqN _ _ _ _ _ _ _; first
       | (refine SeqN.go ?_; conv => whnf))
     | (show LdN _ _ _ _ _; first
       | (refine LdN.ownAt 0 rfl rfl ?_; conv => whnf)
       | (refine LdN.ownAt 1 rfl rfl ?_; conv => whnf))
     | (show CallN _ _ _ _ _ _; first
       | (refine CallN.fn rfl (k1 _ (by assumption) (by assumption)) (fun v h' hl hr => ?_); obtain ⟨s', rfl, hs'⟩ := hr; replace hs' := Nz.by_ln hs' ly; conv => whnf)
       | (refine CallN.fn rfl (k2 _ (by (iterate 30 (try first | assumption | refine Tb.mono ?_ (by assumption))); first | done | assumption) (by (iterate 30 (try first | assumption | refine IsRat.mono ?_ (by assumption))); first | done | assumption)) (fun v h' hl hr => ?_); obtain ⟨s', rfl, hs'⟩ := hr; replace hs' := Nz.by_ln hs' lz; conv => whnf)
       | (refine CallN.quiet rfl (CmpZ _ _ _ _ _ _ _ (Nz.mono (by assumption) (by assumption)) (Nz.mono (by assumption) (by (iterate 30 (try first | assumption | exact Heap.le_refl _)); first | done | assumption)) (by omega) (by omega)) ?_; conv => whnf)
       | (refine CallN.fn rfl (wv _ (by (iterate 30 (try first | assumption | refine Tb.mono ?_ (by assumption))); first | done | assumption) _ _ _ (Nz.mono (by assumption) (by (iterate 30 (try first | assumption | exact Heap.le_refl _ | refine Heap.le_trans ?_ (by assumption))); first | done | assumption)) (by omega) (by assumption)) (fun v h' hl hr => ?_); obtain ⟨s', t', rfl, hs', ht'⟩ := hr; conv => whnf)
       | (refine CallN.fn rfl (wv _ (by (iterate 30 (try first | assumption | refine Tb.mono ?_ (by assumption))); first | done | assumption) ⟨none, 0, 0⟩ 0 60 ⟨IsNat.nil rfl, by rw [(ln_eq_zero two_le_B).2 rfl]; omega⟩ (by omega) (Nat.zero_le _)) (fun v h' hl hr => ?_); obtain ⟨s', t', rfl, hs', ht'⟩ := hr; conv => whnf)
       | (refine CallN.fn rfl (r1 _ (by (iterate 30 (try first | assumption | refine Tb.mono ?_ (by assumption))); first | done | assumption) _ _ _ (Nz.mono (by assumption) (by (iterate 30 (try first | assumption | exact Heap.le_refl _)); first | done | assumption))) (fun v h' hl hr => ?_); obtain ⟨c', d', rfl, hr', hf'⟩ := hr; conv => whnf)
       | (refine CallN.fn rfl (r2 _ (by (iterate 30 (try first | assumption | refine Tb.mono ?_ (by assumption))); first | done | assumption) _ _ _ (Nz.mono (by assumption) (by (iterate 30 (try first | assumption | exact Heap.le_refl _)); first | done | assumption))) (fun v h' hl hr => ?_); obtain ⟨c'', d'', rfl, hr'', hf''⟩ := hr; conv => whnf))
     | ((first | refine opsI.step ?_ | refine codeI.step ?_); conv => whnf)
     | (refine ⟨fun _ => HasLe.of_le (by assumption), ?_⟩; conv => whnf)
     | (intro (_ : Nat); conv => whnf)
     | (show cnd _ _ _; first
       | (refine cnd_lt (fun _ => ?_) (fun _ => ?_) <;> first | (exfalso; omega) | (conv => whnf))
       | (refine cnd_eq (fun _ => ?_) (fun _ => ?_) <;> first | (exfalso; omega) | (conv => whnf)))
     | (show Ld _ _ _ _; first
       | (refine Ld.own 1 rfl rfl ?_; conv => whnf))
     | (show Sto _ _ _ _; first
       | (refine Sto.lit 0 rfl rfl rfl ?_; conv => whnf))
     | (show DrawN _ _ _ _ _ _; first
       | (refine DrawN.run (by decide +kernel) ?_; conv => whnf)))
  all_goals
    replace a0 := a0.out
    replace c0 := c0.out
    replace e1 := e1.out
    replace e2 := e2.out
    have hcmp : cmpI Y Z < 0 ↔ Y < Z := cmpI_neg
    first
      | rw [Nat.max_eq_right (Nat.le_of_lt (hcmp.1 (by omega))), ← eq_comm] at e1
      | rw [Nat.max_eq_left (Nat.le_of_not_lt (fun x => by have := hcmp.2 x; omega)), ← eq_comm] at e1
    first
      | rw [if_pos (by first | exact .inl ⟨rfl, rfl⟩ | exact .inr (.inl (a0.1 (by omega))) | exact .inr (.inr (c0.1 (by omega)))), ← eq_comm] at e2
      | rw [if_neg (fun x => x.elim (fun g => by first | exact absurd g.1 (by decide) | exact absurd g.2 (by decide)) fun x => x.elim (fun y => by have := a0.2 y; omega) fun y => by have := c0.2 y; omega), ← eq_comm] at e2
    try first
      | rw [Nat.min_eq_left (Nat.le_of_lt (hcmp.1 (by omega)))] at e2
      | rw [Nat.min_eq_right (Nat.le_of_not_lt (fun x => by have := hcmp.2 x; omega))] at e2
    clear hcmp a0 c0
    subst e1 e2
    exact RetN.all ⟨_, _, _, _, rfl, hr'.mono (by (iterate 30 (try first | assumption | refine Heap.le_trans ?_ (by assumption))); first | done | assumption), hr'', hf', hf''⟩
end Go.Proofs.YtdemgbmndijkkaaGreatDoor