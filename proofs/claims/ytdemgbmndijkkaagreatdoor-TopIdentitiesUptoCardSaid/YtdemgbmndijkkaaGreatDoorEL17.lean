/- Package elem: a series called for an argument, unless the value is exact. -/
import Derived.Test.YtdemgbmndijkkaaGreatDoorEL16
set_option linter.unusedVariables false
set_option linter.unusedSimpArgs false
namespace Go.Proofs.YtdemgbmndijkkaaGreatDoor
open Go Go.Vc Go.Dig
/-- what the brackets of the four functions are said to be -/
def Good (fn : Nat) (q lo hi : Rat) : Prop :=
  (fn = 1 → An.ExpB q lo hi) ∧ (fn = 2 → 0 < q ∧ An.LogB q lo hi) ∧ (fn = 3 → An.SinB q lo hi) ∧ (fn = 4 → An.CosB q lo hi)
/-- a series of a function -/
def Ser (f : FuncId) (fn : Nat) : Prop := ∀ (h : Heap) (a b : Sl) (q : Rat) (p : Int), Tb h → IsRat h a b q → Rdy fn q p → ¬ exQ fn q →
  Fn0 T f [.agg #[.bool (sg q), a.val, b.val], .int .i64 p] h fun v h' => ∃ v' lo hi, v = .tuple #[v', .int .i64 0] ∧ BrR h' v' lo hi ∧ Good fn q lo hi
/-- a series at an argument -/
def SerG (G : Rat → Rat → Prop) (f : FuncId) (fn : Nat) (q : Rat) (p : Int) : Prop := ∀ (h : Heap) (a b : Sl), Tb h → IsRat h a b q → Rdy fn q p → ¬ exQ fn q →
  Fn0 T f [.agg #[.bool (sg q), a.val, b.val], .int .i64 p] h fun v h' => ∃ v' lo hi, v = .tuple #[v', .int .i64 0] ∧ BrR h' v' lo hi ∧ G lo hi
/-- a bracket with its error -/
def ResG (G : Rat → Rat → Prop) (h : Heap) (v : Value) (fn : Nat) (q : Rat) (p : Int) : Prop := ∃ (v' : Value) (e : Int) (lo hi : Rat), v = .tuple #[v', .int .i64 e] ∧ BrR h v' lo hi ∧ (e = 0 ↔ Rdy fn q p) ∧ (e = 0 → G lo hi)
def ResB (h : Heap) (v : Value) (fn : Nat) (q : Rat) (p : Int) : Prop := ResG (Good fn q) h v fn q p
theorem good_exact {fn : Nat} (h1 : 1 ≤ fn) (h4 : fn ≤ 4) {q : Rat} (h : exQ fn q) : Good fn q (exV fn) (exV fn) := by
  unfold exQ at h
  have hf : fn = 1 ∨ fn = 2 ∨ fn = 3 ∨ fn = 4 := by omega
  have zero : ∀ n, An.Si 0 n = 0 := fun n => by
    have := An.Si_neg 0 n
    rw [show (-0 : Rat) = 0 by grind] at this
    grind
  rcases hf with rfl | rfl | rfl | rfl
  · rw [if_neg (by decide)] at h
    rw [h]
    exact ⟨fun _ => An.expB_zero, fun x => absurd x (by decide), fun x => absurd x (by decide), fun x => absurd x (by decide)⟩
  · rw [if_pos rfl] at h
    rw [h]
    refine ⟨fun x => absurd x (by decide), fun _ => ⟨by grind, fun s t hs ht e => ?_⟩, fun x => absurd x (by decide), fun x => absurd x (by decide)⟩
    rw [Rat.one_mul] at e
    rw [e, show exV 2 = 0 from rfl]
    exact ⟨fun B hB n => by rw [Rat.zero_add]; exact hB n, fun B hB n => by rw [Rat.zero_add]; exact hB n⟩
  · rw [if_neg (by decide)] at h
    rw [h]
    refine ⟨fun x => absurd x (by decide), fun x => absurd x (by decide), fun _ => ⟨An.Le2.of (An.Ev.all fun m n => ?_), An.Le2.of (An.Ev.all fun m n => ?_)⟩, fun x => absurd x (by decide)⟩
    · rw [zero]; exact Rat.le_refl
    · rw [zero]; exact Rat.le_refl
  · rw [if_neg (by decide)] at h
    rw [h]
    refine ⟨fun x => absurd x (by decide), fun x => absurd x (by decide), fun x => absurd x (by decide), fun _ => ⟨An.Le2.of ⟨0, fun m _ => ⟨1, fun n hn => ?_⟩⟩, An.Le2.of ⟨0, fun m _ => ⟨1, fun n hn => ?_⟩⟩⟩⟩
    · show exV 4 ≤ An.Co 0 n
      rw [An.Co_zero hn]; exact Rat.le_refl
    · show An.Co 0 n ≤ exV 4
      rw [An.Co_zero hn]; exact Rat.le_refl
theorem fits_exV (fn : Nat) : fits (exV fn) := by
  unfold exV
  split
  · exact ⟨Nat.le_trans (ln_le_of_le (n := 1) (by decide +kernel)) (by rw [ln_one _ two_le_B]; omega), Nat.le_trans (ln_le_of_le (n := 1) (by decide +kernel)) (by rw [ln_one _ two_le_B]; omega)⟩
  · exact fits_zero
theorem CanonQ (h : Heap) (tb : Tb h) (a b : Sl) (q : Rat) (w : IsRat h a b q) (f : fits q) : Fn0 T F.number_Canon [.agg #[.bool (sg q), a.val, b.val]] h fun v h' => ∃ a b : Sl, v = .tuple #[.agg #[.bool (sg q), a.val, b.val], .int .i64 0] ∧ IsRat h' a b q := by
  have hr : spec1 (fun q => q) (sg q) (dg 4294967296 (nu q)) (dg 4294967296 (dn q)) = (q, 0) := by
    unfold spec1
    rw [if_pos (okR_dg f), ratOf_dg]; exact if_pos f
  refine (NCanon_ct h tb (sg q) a b _ _ (israt_val w (fits_sz f))).mono fun v h' _ r => ?_
  rw [hr] at r
  exact r
theorem BrR.zero (h : Heap) : BrR h (.agg #[.bool false, .slice none 0 0, .slice none 0 0, .bool false, .slice none 0 0, .slice none 0 0]) 0 0 :=
  ⟨⟨none, 0, 0⟩, ⟨none, 0, 0⟩, ⟨none, 0, 0⟩, ⟨none, 0, 0⟩, by rw [sg_zero] <;> rfl, IsRat.zero _, IsRat.zero _, fits_zero, fits_zero⟩
set_option maxRecDepth 20000 in
set_option maxHeartbeats 2000000 in
theorem apply_gen (G : Rat → Rat → Prop) (h : Heap) (tb : Tb h) (a b : Sl) (q : Rat) (fn : Nat) (p : Int) (f : FuncId) (hT : T.fn f = true) (ser : SerG G f fn q p) (good : exQ fn q → G (exV fn) (exV fn)) (h1 : 1 ≤ fn) (h4 : fn ≤ 4) (w : IsRat h a b q) (hs : Sz 1073741824 q) :
    Fn0 T F.elem_apply [.int .i64 fn, .agg #[.bool (sg q), a.val, b.val], .int .i64 p, .func (.func f) #[] #[]] h fun v h' => ResG G h' v fn q p := by
  have kr := fun h tb w => ready_ct h tb a b q fn p h1 h4 w hs
  by_cases rd : Rdy fn q p
  · have kr : ∀ h, Tb h → IsRat h a b q → Fn0 T F.elem_ready [.int .i64 fn, .agg #[.bool (sg q), a.val, b.val], .int .i64 p] h fun v h' => ∃ c d : Sl, v = .tuple #[.agg #[.bool (sg q), c.val, d.val], .int .i64 0] ∧ IsRat h' c d q := fun h tb w => (kr h tb w).mono fun v h' _ r => by
      obtain ⟨c, d, r, e, e1, e2, e3, e4⟩ := r
      obtain rfl := e3.2 rd
      obtain rfl := e4 rfl
      exact ⟨c, d, e1, e2⟩
    have ke := fun h c d w => exact_ct h c d q fn h1 h4 w rd.ft
    by_cases hx : exQ fn q
    · rw [dec_true hx] at ke
      have gd := good hx
      have fv := fits_exV fn
      have ke : ∀ h c d, IsRat h c d q → Fn0 T F.elem_exact [.int .i64 fn, .agg #[.bool (sg q), c.val, d.val]] h fun v h' => ∃ c d : Sl, v = .tuple #[.agg #[.bool (sg (exV fn)), c.val, d.val], .bool true] ∧ IsRat h' c d (exV fn) := fun h c d w => (ke h c d w).mono fun v h' _ r => by
        obtain ⟨c, d, r, e1, e2, e3⟩ := r
        obtain rfl := e3 hx
        exact ⟨c, d, e1, e2⟩
      have kc := fun h tb a b w => CanonQ h tb a b (exV fn) w fv
      obtain ⟨V, hV⟩ : ∃ V, V = exV fn := ⟨_, rfl⟩
      rw [← hV] at ke kc gd fv
      obtain ⟨s, hs'⟩ : ∃ s, s = sg q := ⟨_, rfl⟩
      rw [← hs'] at kr ke ⊢
      refine fn0_of_codeI ok D.elem_apply rfl ?_
      conv => whnf
      repeat ((first | refine opsI.step ?_ | refine codeI.step ?_); conv => whnf)
      repeat' first
       | (show CallN _ _ _ _ _ _; first
         | (refine CallN.fn rfl (kr _ (by assumption) (by assumption)) (fun v h' hl hr => ?_); obtain ⟨c1, d1, rfl, hr1⟩ := hr; conv => whnf)
         | (refine CallN.fn rfl (ke _ _ _ (hr1.mono (by (iterate 30 (try first | assumption | exact Heap.le_refl _)); first | done | assumption))) (fun v h' hl hr => ?_); obtain ⟨c2, d2, rfl, hr2⟩ := hr; conv => whnf)
         | (refine CallN.fn rfl (kc _ (by (iterate 30 (try first | assumption | refine Tb.mono ?_ (by assumption))); first | done | assumption) _ _ (hr2.mono (by (iterate 30 (try first | assumption | exact Heap.le_refl _)); first | done | assumption))) (fun v h' hl hr => ?_); obtain ⟨c3, d3, rfl, hr3⟩ := hr; conv => whnf))
       | ((first | refine opsI.step ?_ | refine codeI.step ?_); conv => whnf)
       | (intro (_ : Nat); conv => whnf)
       | (show cnd _ _ _; first
         | (refine cnd_eq (fun _ => ?_) (fun _ => ?_) <;> first | (exfalso; omega) | (conv => whnf))
         | (refine cnd_not ?_))
       | (show LdN _ _ _ _ _; first
         | (refine LdN.own 0 rfl rfl ?_; conv => whnf)
         | (refine LdN.own 1 rfl rfl ?_; conv => whnf)
         | (refine LdN.own 2 rfl rfl ?_; conv => whnf))
       | (show Sto _ _ _ _; first
         | (refine Sto.lit 0 rfl rfl rfl ?_; conv => whnf)
         | (refine Sto.lit 1 rfl rfl rfl ?_; conv => whnf)
         | (refine Sto.lit 2 rfl rfl rfl ?_; conv => whnf))
      all_goals exact RetN.all ⟨_, 0, V, V, rfl, ⟨_, _, _, _, rfl, hr2.mono (by assumption), hr3.mono (by (iterate 30 (try first | assumption | exact Heap.le_refl _)); first | done | assumption), fv, fv⟩, ⟨fun _ => rd, fun _ => rfl⟩, fun _ => gd⟩
    · rw [dec_false hx] at ke
      have kser := fun h a b tb w => ser h a b tb w rd hx
      obtain ⟨s, hs'⟩ : ∃ s, s = sg q := ⟨_, rfl⟩
      rw [← hs'] at kr ke kser ⊢
      refine fn0_of_codeI ok D.elem_apply rfl ?_
      conv => whnf
      repeat ((first | refine opsI.step ?_ | refine codeI.step ?_); conv => whnf)
      repeat' first
       | (show CallN _ _ _ _ _ _; first
         | (refine CallN.fn rfl (kr _ (by assumption) (by assumption)) (fun v h' hl hr => ?_); obtain ⟨c1, d1, rfl, hr1⟩ := hr; conv => whnf)
         | (refine CallN.fn rfl (ke _ _ _ (hr1.mono (by (iterate 30 (try first | assumption | exact Heap.le_refl _)); first | done | assumption))) (fun v h' hl hr => ?_); obtain ⟨c2, d2, r2, rfl, hr2, -⟩ := hr; conv => whnf)
         | (refine CallN.fn hT (kser _ _ _ (by (iterate 30 (try first | assumption | refine Tb.mono ?_ (by assumption))); first | done | assumption) (hr1.mono (by assumption))) (fun v h' hl hr => ?_); obtain ⟨v', lo, hi, rfl, ⟨a3, b3, c3, d3, rfl, hr3, hr4, hf3, hf4⟩, gd⟩ := hr; conv => whnf))
       | ((first | refine opsI.step ?_ | refine codeI.step ?_); conv => whnf)
       | (intro (_ : Nat); conv => whnf)
       | (show cnd _ _ _; first
         | (refine cnd_eq (fun _ => ?_) (fun _ => ?_) <;> first | (exfalso; omega) | (conv => whnf))
         | (refine cnd_not ?_))
       | (show LdN _ _ _ _ _; first
         | (refine LdN.own 1 rfl rfl ?_; conv => whnf)
         | (refine LdN.own 2 rfl rfl ?_; conv => whnf))
       | (show Sto _ _ _ _; first
         | (refine Sto.lit 0 rfl rfl rfl ?_; conv => whnf)
         | (refine Sto.lit 1 rfl rfl rfl ?_; conv => whnf))
      all_goals exact RetN.all ⟨_, 0, lo, hi, rfl, ⟨_, _, _, _, rfl, (by assumption), (by assumption), hf3, hf4⟩, ⟨fun _ => rd, fun _ => rfl⟩, fun _ => gd⟩
  · have kr : ∀ h, Tb h → IsRat h a b q → Fn0 T F.elem_ready [.int .i64 fn, .agg #[.bool (sg q), a.val, b.val], .int .i64 p] h fun v h' => ∃ (c d : Sl) (r : Rat) (e : Int), v = .tuple #[.agg #[.bool (sg r), c.val, d.val], .int .i64 e] ∧ e ≠ 0 := fun h tb w => (kr h tb w).mono fun v h' _ r => by
      obtain ⟨c, d, r, e, e1, e2, e3, e4⟩ := r
      exact ⟨c, d, r, e, e1, fun x => rd (e3.1 x)⟩
    obtain ⟨s, hs'⟩ : ∃ s, s = sg q := ⟨_, rfl⟩
    rw [← hs'] at kr ⊢
    refine fn0_of_codeI ok D.elem_apply rfl ?_
    conv => whnf
    repeat ((first | refine opsI.step ?_ | refine codeI.step ?_); conv => whnf)
    repeat' first
     | (show CallN _ _ _ _ _ _; first
       | (refine CallN.fn rfl (kr _ (by assumption) (by assumption)) (fun v h' hl hr => ?_); obtain ⟨c1, d1, r1, e1, rfl, hne⟩ := hr; conv => whnf))
     | ((first | refine opsI.step ?_ | refine codeI.step ?_); conv => whnf)
     | (intro (_ : Nat); conv => whnf)
     | (show cnd _ _ _; first
       | (refine cnd_eq (fun _ => ?_) (fun _ => ?_) <;> first | (exfalso; omega) | (conv => whnf))
       | (refine cnd_not ?_))
     | (show LdN _ _ _ _ _; first
       | (refine LdN.own 0 rfl rfl ?_; conv => whnf)
       | (refine LdN.own 1 rfl rfl ?_; conv => whnf))
     | (show Sto _ _ _ _; first
       | (refine Sto.lit 0 rfl rfl rfl ?_; conv => whnf)
       | (refine Sto.lit 1 rfl rfl rfl ?_; conv => whnf))
    all_goals first
      | exact RetN.all ⟨_, e1, 0, 0, rfl, BrR.zero _, ⟨fun x => absurd x hne, fun x => absurd x rd⟩, fun x => absurd x hne⟩
      | (exfalso; omega)
theorem apply_ct (h : Heap) (tb : Tb h) (a b : Sl) (q : Rat) (fn : Nat) (p : Int) (f : FuncId) (hT : T.fn f = true) (ser : Ser f fn) (h1 : 1 ≤ fn) (h4 : fn ≤ 4) (w : IsRat h a b q) (hs : Sz 1073741824 q) :
    Fn0 T F.elem_apply [.int .i64 fn, .agg #[.bool (sg q), a.val, b.val], .int .i64 p, .func (.func f) #[] #[]] h fun v h' => ResB h' v fn q p :=
  apply_gen (Good fn q) h tb a b q fn p f hT (fun h a b tb w r hx => ser h a b q p tb w r hx) (good_exact h1 h4) h1 h4 w hs
end Go.Proofs.YtdemgbmndijkkaaGreatDoor