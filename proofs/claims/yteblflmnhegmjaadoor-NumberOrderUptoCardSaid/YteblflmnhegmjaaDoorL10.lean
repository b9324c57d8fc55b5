/- What the statement on the order computes: true. -/
import Derived.Test.YteblflmnhegmjaaDoorU2
set_option linter.unusedVariables false
set_option linter.unusedSimpArgs false
namespace Go.Proofs.YteblflmnhegmjaaDoor
open Go Go.Vc Go.Dig

theorem order1 {x y z : Option Rat} {c1 d1 c2 d2 c3 d3 cb db : Int} (g1 : (c1, d1) = cmpR x y) (g2 : (c2, d2) = cmpR y z) (g3 : (c3, d3) = cmpR x z) (gb : (cb, db) = cmpR y x) :
    (d1 = 0 ∨ d1 = 1) ∧ (d2 = 0 ∨ d2 = 1) ∧ (d3 = 0 ∨ d3 = 1) ∧ (d3 = 1 → d1 = 1 ∨ d2 = 1) ∧ (d1 = 0 → -1 ≤ c1 ∧ c1 ≤ 1 ∧ cb = -c1) ∧ (d1 = 0 → d2 = 0 → (c1 = c2 → c3 = c1) ∧ (c1 = 0 → c3 = c2) ∧ (c2 = 0 → c3 = c1)) := by
  cases x with
  | none => cases y <;> cases z <;> simp only [cmpR, Prod.mk.injEq] at g1 g2 g3 gb <;> omega
  | some X =>
    cases y with
    | none => cases z <;> simp only [cmpR, Prod.mk.injEq] at g1 g2 g3 gb <;> omega
    | some Y =>
      have b := cmp_bound X Y
      have f := cmp_flip X Y
      cases z with
      | none => simp only [cmpR, Prod.mk.injEq] at g1 g2 g3 gb; omega
      | some Z =>
        have t1 := cmp_trans (q := X) (r := Y) (s := Z)
        have t2 := cmp_left (q := X) (r := Y) (s := Z)
        have t3 := cmp_right (q := X) (r := Y) (s := Z)
        simp only [cmpR, Prod.mk.injEq] at g1 g2 g3 gb
        obtain ⟨rfl, rfl⟩ := g1
        obtain ⟨rfl, rfl⟩ := g2
        obtain ⟨rfl, rfl⟩ := g3
        obtain ⟨rfl, rfl⟩ := gb
        exact ⟨.inl rfl, .inl rfl, .inl rfl, fun h => by omega, fun _ => ⟨b.1, b.2, f⟩, fun _ _ => ⟨t1, t2, t3⟩⟩
theorem order2 {x y : Option Rat} {c1 d1 : Int} (g1 : (c1, d1) = cmpR x y) (h : (opR (· - ·) x y).2 = 0) : signQ (opR (· - ·) x y).1 = c1 := by
  obtain ⟨a, b, rfl, rfl, e⟩ := opR_ok h
  rw [e, cmpQ_sub]
  exact (Prod.mk.inj g1).1.symm
theorem order3 {x y z : Option Rat} {c1 d1 : Int} (g1 : (c1, d1) = cmpR x y) (h : (opR (· + ·) x z).2 = 0) (h' : (opR (· + ·) y z).2 = 0) : cmpQ (opR (· + ·) x z).1 (opR (· + ·) y z).1 = c1 := by
  obtain ⟨a, b, rfl, rfl, e⟩ := opR_ok h
  obtain ⟨c, d, rfl, e', e2⟩ := opR_ok h'
  cases e'
  rw [e, e2, cmp_add]
  exact (Prod.mk.inj g1).1.symm

set_option maxRecDepth 20000 in
set_option maxHeartbeats 4000000 in
theorem Order_walk (h : Heap) (tb : Tb h) (n1 : Bool) (a1 b1 : Sl) (x : Option Rat) (hx : IsNum h n1 a1 b1 x) (n2 : Bool) (a2 b2 : Sl) (y : Option Rat) (hy : IsNum h n2 a2 b2 y) (n3 : Bool) (a3 b3 : Sl) (z : Option Rat) (hz : IsNum h n3 a3 b3 z) :
    Fn0 T F.law01_NumberOrder [.agg #[.bool n1, a1.val, b1.val], .agg #[.bool n2, a2.val, b2.val], .agg #[.bool n3, a3.val, b3.val]] h fun v _ => v = .bool true := by
  obtain ⟨⟨c1, d1⟩, g1⟩ : ∃ p : Int × Int, p = cmpR x y := ⟨_, rfl⟩
  obtain ⟨⟨c2, d2⟩, g2⟩ : ∃ p : Int × Int, p = cmpR y z := ⟨_, rfl⟩
  obtain ⟨⟨c3, d3⟩, g3⟩ : ∃ p : Int × Int, p = cmpR x z := ⟨_, rfl⟩
  obtain ⟨⟨c4, d4⟩, g4⟩ : ∃ p : Int × Int, p = cmpR y x := ⟨_, rfl⟩
  obtain ⟨k1, k2, k3, k4, k5, k6⟩ := order1 g1 g2 g3 g4
  have m1 := order2 g1
  have m2 := order3 (z := z) g1
  obtain ⟨p5, g5⟩ : ∃ p, p = opR (· - ·) x y := ⟨_, rfl⟩
  rw [← g5] at m1
  obtain ⟨⟨c6, d6⟩, g6⟩ : ∃ p : Int × Int, p = signR (some p5.1) := ⟨_, rfl⟩
  have m3 : c6 = signQ p5.1 ∧ d6 = 0 := Prod.mk.inj g6
  rw [← m3.1] at m1
  replace m3 := m3.2
  obtain ⟨p7, g7⟩ : ∃ p, p = opR (· + ·) x z := ⟨_, rfl⟩
  obtain ⟨p8, g8⟩ : ∃ p, p = opR (· + ·) y z := ⟨_, rfl⟩
  rw [← g7, ← g8] at m2
  obtain ⟨⟨c9, d9⟩, g9⟩ : ∃ p : Int × Int, p = cmpR (some p7.1) (some p8.1) := ⟨_, rfl⟩
  have m4 : c9 = cmpQ p7.1 p8.1 ∧ d9 = 0 := Prod.mk.inj g9
  rw [← m4.1] at m2
  replace m4 := m4.2
  refine fn0_of_codeI ok D.law01_NumberOrder rfl ?_
  conv => whnf
  repeat ((first | refine opsI.step ?_ | refine codeI.step ?_); conv => whnf)
  repeat' first
   | ((first | refine opsI.step ?_ | refine codeI.step ?_); conv => whnf)
   | (intro (_ : Nat); conv => whnf)
   | (show LdN _ _ _ _ _; first
     | (refine LdN.own 1 rfl rfl ?_; conv => whnf)
     | (refine LdN.own 2 rfl rfl ?_; conv => whnf))
  refine CallN.fn rfl (CompareN _ _ _ _ _ _ _ x y (by assumption) (by assumption) (by assumption)) (fun v h1 hl1 hr => ?_)
  rw [← g1] at hr
  obtain rfl := (show v = .tuple #[.int .i64 c1, .int .i64 d1] from hr)
  conv => whnf
  repeat' first
   | ((first | refine opsI.step ?_ | refine codeI.step ?_); conv => whnf)
   | (show LdN _ _ _ _ _; first
     | (refine LdN.own 0 rfl rfl ?_; conv => whnf)
     | (refine LdN.own 1 rfl rfl ?_; conv => whnf))
  refine CallN.fn rfl (CompareN _ _ _ _ _ _ _ y z (by (iterate 30 (try first | assumption | refine Tb.mono ?_ (by assumption))); first | done | assumption) (by (iterate 30 (try first | assumption | refine IsNum.mono ?_ (by assumption))); first | done | assumption) (by (iterate 30 (try first | assumption | refine IsNum.mono ?_ (by assumption))); first | done | assumption)) (fun v h2 hl2 hr => ?_)
  rw [← g2] at hr
  obtain rfl := (show v = .tuple #[.int .i64 c2, .int .i64 d2] from hr)
  conv => whnf
  repeat' first
   | ((first | refine opsI.step ?_ | refine codeI.step ?_); conv => whnf)
   | (show LdN _ _ _ _ _; first
     | (refine LdN.own 0 rfl rfl ?_; conv => whnf)
     | (refine LdN.own 2 rfl rfl ?_; conv => whnf))
  refine CallN.fn rfl (CompareN _ _ _ _ _ _ _ x z (by (iterate 30 (try first | assumption | refine Tb.mono ?_ (by assumption))); first | done | assumption) (by (iterate 30 (try first | assumption | refine IsNum.mono ?_ (by assumption))); first | done | assumption) (by (iterate 30 (try first | assumption | refine IsNum.mono ?_ (by assumption))); first | done | assumption)) (fun v h3 hl3 hr => ?_)
  rw [← g3] at hr
  obtain rfl := (show v = .tuple #[.int .i64 c3, .int .i64 d3] from hr)
  conv => whnf
  repeat' first
   | (show CallN _ _ _ _ _ _; first
     | (refine CallN.fn rfl (awake_ct _ (by (iterate 30 (try first | assumption | refine Tb.mono ?_ (by assumption))); first | done | assumption)) (fun v h' hl hr => ?_); obtain rfl := hr; conv => whnf))
   | ((first | refine opsI.step ?_ | refine codeI.step ?_); conv => whnf)
   | (show cnd _ _ _; first
     | (refine cnd_eq (fun _ => ?_) (fun _ => ?_) <;> first | (exfalso; omega) | (conv => whnf))
     | (refine cnd_not ?_))
   | (show LdN _ _ _ _ _; first
     | (refine LdN.own 1 rfl rfl ?_; conv => whnf)
     | (refine LdN.own 2 rfl rfl ?_; conv => whnf))
  all_goals first
    | exact RetN.all rfl
    | skip
  refine CallN.fn rfl (CompareN _ _ _ _ _ _ _ y x (by (iterate 30 (try first | assumption | refine Tb.mono ?_ (by assumption))); first | done | assumption) (by (iterate 30 (try first | assumption | refine IsNum.mono ?_ (by assumption))); first | done | assumption) (by (iterate 30 (try first | assumption | refine IsNum.mono ?_ (by assumption))); first | done | assumption)) (fun v h4 hl4 hr => ?_)
  rw [← g4] at hr
  obtain rfl := (show v = .tuple #[.int .i64 c4, .int .i64 d4] from hr)
  conv => whnf
  repeat' first
   | (refine codeI.meetK 7 99 false ?_ ?_ <;> (conv => whnf))
   | (show _ ∧ _ ∧ _ ∧ _; exact ⟨rfl, (by first | rfl | (refine Eq.trans (b := Value.bool (!Vc.eq _ _)) rfl ?_; rw [Vc.eq_true' (by omega)]; rfl) | (refine Eq.trans (b := Value.bool (Vc.eq _ _)) rfl ?_; rw [Vc.eq_false' (by omega)])), (by (iterate 30 (try first | assumption | exact Heap.le_refl _)); first | done | assumption), rfl⟩)
   | (intro (_ : Value); repeat intro (_ : Value); (conv => whnf); intro hm em hlm; (conv at em => lhs; whnf); subst em; conv => whnf)
   | ((first | refine opsI.step ?_ | refine codeI.step ?_); conv => whnf)
   | (show WrapN _ _ _; first
     | (refine WrapN.i64 (by omega) (by omega) ?_; conv => whnf))
   | (show cnd _ _ _; first
     | (refine cnd_eq (fun _ => ?_) (fun _ => ?_) <;> first | (exfalso; omega) | (conv => whnf))
     | (refine cnd_not ?_))
   | (show LdN _ _ _ _ _; first
     | (refine LdN.own 1 rfl rfl ?_; conv => whnf)
     | (refine LdN.own 2 rfl rfl ?_; conv => whnf))
  refine CallN.fn rfl (SubN _ _ _ _ _ _ _ x y (by (iterate 30 (try first | assumption | refine Tb.mono ?_ (by assumption))); first | done | assumption) (by (iterate 30 (try first | assumption | refine IsNum.mono ?_ (by assumption))); first | done | assumption) (by (iterate 30 (try first | assumption | refine IsNum.mono ?_ (by assumption))); first | done | assumption)) (fun v h5 hl5 hr => ?_)
  rw [← g5] at hr
  obtain ⟨e5, f5, rfl, hq5, hn5⟩ := hr
  conv => whnf
  repeat ((first | refine opsI.step ?_ | refine codeI.step ?_); conv => whnf)
  repeat' first
   | ((first | refine opsI.step ?_ | refine codeI.step ?_); conv => whnf)
   | (intro (_ : Nat); conv => whnf)
   | (show LdN _ _ _ _ _; first
     | (refine LdN.own 0 rfl rfl ?_; conv => whnf))
   | (show Sto _ _ _ _; first
     | (refine Sto.lit 0 rfl rfl rfl ?_; conv => whnf))
  refine CallN.fn rfl (SignN _ _ _ _ (some p5.1) (by (iterate 30 (try first | assumption | refine Tb.mono ?_ (by assumption))); first | done | assumption) (by assumption)) (fun v h6 hl6 hr => ?_)
  rw [← g6] at hr
  obtain rfl := (show v = .tuple #[.int .i64 c6, .int .i64 d6] from hr)
  conv => whnf
  repeat' first
   | (refine codeI.meetK 11 121 false ?_ ?_ <;> (conv => whnf))
   | (show _ ∧ _ ∧ _ ∧ _; exact ⟨rfl, (by first | rfl | (refine Eq.trans (b := Value.bool (!Vc.eq _ _)) rfl ?_; rw [Vc.eq_true' (by omega)]; rfl) | (refine Eq.trans (b := Value.bool (Vc.eq _ _)) rfl ?_; rw [Vc.eq_false' (by omega)])), (by (iterate 30 (try first | assumption | exact Heap.le_refl _)); first | done | assumption), rfl⟩)
   | (intro (_ : Value); repeat intro (_ : Value); (conv => whnf); intro hm em hlm; (conv at em => lhs; whnf); subst em; conv => whnf)
   | ((first | refine opsI.step ?_ | refine codeI.step ?_); conv => whnf)
   | (show cnd _ _ _; first
     | (refine cnd_eq (fun _ => ?_) (fun _ => ?_) <;> first | (exfalso; omega) | (conv => whnf))
     | (refine cnd_not ?_))
   | (show LdN _ _ _ _ _; first
     | (refine LdN.own 1 rfl rfl ?_; conv => whnf)
     | (refine LdN.own 3 rfl rfl ?_; conv => whnf))
  refine CallN.fn rfl (AddN _ _ _ _ _ _ _ x z (by (iterate 30 (try first | assumption | refine Tb.mono ?_ (by assumption))); first | done | assumption) (by (iterate 30 (try first | assumption | refine IsNum.mono ?_ (by assumption))); first | done | assumption) (by (iterate 30 (try first | assumption | refine IsNum.mono ?_ (by assumption))); first | done | assumption)) (fun v h7 hl7 hr => ?_)
  rw [← g7] at hr
  obtain ⟨e7, f7, rfl, hq7, hn7⟩ := hr
  conv => whnf
  repeat ((first | refine opsI.step ?_ | refine codeI.step ?_); conv => whnf)
  repeat' first
   | ((first | refine opsI.step ?_ | refine codeI.step ?_); conv => whnf)
   | (intro (_ : Nat); conv => whnf)
   | (show LdN _ _ _ _ _; first
     | (refine LdN.own 2 rfl rfl ?_; conv => whnf)
     | (refine LdN.own 3 rfl rfl ?_; conv => whnf))
   | (show Sto _ _ _ _; first
     | (refine Sto.lit 0 rfl rfl rfl ?_; conv => whnf))
  refine CallN.fn rfl (AddN _ _ _ _ _ _ _ y z (by (iterate 30 (try first | assumption | refine Tb.mono ?_ (by assumption))); first | done | assumption) (by (iterate 30 (try first | assumption | refine IsNum.mono ?_ (by assumption))); first | done | assumption) (by (iterate 30 (try first | assumption | refine IsNum.mono ?_ (by assumption))); first | done | assumption)) (fun v h8 hl8 hr => ?_)
  rw [← g8] at hr
  obtain ⟨e8, f8, rfl, hq8, hn8⟩ := hr
  conv => whnf
  repeat ((first | refine opsI.step ?_ | refine codeI.step ?_); conv => whnf)
  repeat' first
   | ((first | refine opsI.step ?_ | refine codeI.step ?_); conv => whnf)
   | (intro (_ : Nat); conv => whnf)
   | (show LdN _ _ _ _ _; first
     | (refine LdN.own 0 rfl rfl ?_; conv => whnf)
     | (refine LdN.own 1 rfl rfl ?_; conv => whnf))
   | (show Sto _ _ _ _; first
     | (refine Sto.lit 0 rfl rfl rfl ?_; conv => whnf))
  refine CallN.fn rfl (CompareN _ _ _ _ _ _ _ (some p7.1) (some p8.1) (by (iterate 30 (try first | assumption | refine Tb.mono ?_ (by assumption))); first | done | assumption) (by (iterate 30 (try first | assumption | refine IsNum.mono ?_ (by assumption))); first | done | assumption) (by assumption)) (fun v h9 hl9 hr => ?_)
  rw [← g9] at hr
  obtain rfl := (show v = .tuple #[.int .i64 c9, .int .i64 d9] from hr)
  conv => whnf
  repeat' first
   | (show CallN _ _ _ _ _ _; first
     | (refine CallN.fn rfl (awake_ct _ (by (iterate 30 (try first | assumption | refine Tb.mono ?_ (by assumption))); first | done | assumption)) (fun v h' hl hr => ?_); obtain rfl := hr; conv => whnf))
   | ((first | refine opsI.step ?_ | refine codeI.step ?_); conv => whnf)
   | (show cnd _ _ _; first
     | (refine cnd_eq (fun _ => ?_) (fun _ => ?_) <;> first | (exfalso; omega) | (conv => whnf))
     | (refine cnd_not ?_))
  all_goals exact RetN.all rfl
theorem Order_law (h : Heap) (tb : Tb h) (n1 : Bool) (a1 b1 : Sl) (l1 m1 : List Nat) (hv1 : IsVal h a1 b1 l1 m1) (n2 : Bool) (a2 b2 : Sl) (l2 m2 : List Nat) (hv2 : IsVal h a2 b2 l2 m2) (n3 : Bool) (a3 b3 : Sl) (l3 m3 : List Nat) (hv3 : IsVal h a3 b3 l3 m3) :
    Fn0 T F.law01_NumberOrder [.agg #[.bool n1, a1.val, b1.val], .agg #[.bool n2, a2.val, b2.val], .agg #[.bool n3, a3.val, b3.val]] h fun v _ => v = .bool true :=
  Order_walk h tb n1 a1 b1 _ hv1.num' n2 a2 b2 _ hv2.num' n3 a3 b3 _ hv3.num'
end Go.Proofs.YteblflmnhegmjaaDoor
