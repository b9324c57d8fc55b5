/- What the statement on the field computes: true. -/
import Derived.Test.YthgggofobbokeaaDoorU1
set_option linter.unusedVariables false
set_option linter.unusedSimpArgs false
namespace Go.Proofs.YthgggofobbokeaaDoor
open Go Go.Vc Go.Dig

section
variable (x y z : Option Rat)
theorem field1 (h1 : (opR (· + ·) x y).2 = 0) (h2 : (opR (· + ·) (some (opR (· + ·) x y).1) z).2 = 0) (h3 : (opR (· + ·) y z).2 = 0) (h4 : (opR (· + ·) (some (opR (· + ·) y z).1) x).2 = 0) :
    (opR (· + ·) (some (opR (· + ·) x y).1) z).1 = (opR (· + ·) (some (opR (· + ·) y z).1) x).1 := by
  obtain ⟨a, b, rfl, rfl, e1⟩ := opR_ok h1
  obtain ⟨c, d, e, rfl, e2⟩ := opR_ok h2
  obtain ⟨f, g, e', _, e3⟩ := opR_ok h3
  obtain ⟨i, j, e'', _, e4⟩ := opR_ok h4
  simp only [Option.some.injEq] at *
  subst_vars
  rw [e2, e4, e1, e3]
  simp only [Rat.add_assoc]
  rw [Rat.add_comm]
  simp only [Rat.add_assoc]
theorem field2 (h1 : (opR (· * ·) x y).2 = 0) (h2 : (opR (· * ·) (some (opR (· * ·) x y).1) z).2 = 0) (h3 : (opR (· * ·) z y).2 = 0) (h4 : (opR (· * ·) (some (opR (· * ·) z y).1) x).2 = 0) :
    (opR (· * ·) (some (opR (· * ·) x y).1) z).1 = (opR (· * ·) (some (opR (· * ·) z y).1) x).1 := by
  obtain ⟨a, b, rfl, rfl, e1⟩ := opR_ok h1
  obtain ⟨c, d, e, rfl, e2⟩ := opR_ok h2
  obtain ⟨f, g, e', _, e3⟩ := opR_ok h3
  obtain ⟨i, j, e'', _, e4⟩ := opR_ok h4
  simp only [Option.some.injEq] at *
  subst_vars
  rw [e2, e4, e1, e3]
  rw [Rat.mul_comm, Rat.mul_assoc]
  congr 1
  exact Rat.mul_comm _ _
theorem field3 (h3 : (opR (· + ·) y z).2 = 0) (h5 : (opR (· * ·) x y).2 = 0) (h9 : (opR (· * ·) x (some (opR (· + ·) y z).1)).2 = 0) (h10 : (opR (· * ·) x z).2 = 0)
    (h11 : (opR (· + ·) (some (opR (· * ·) x y).1) (some (opR (· * ·) x z).1)).2 = 0) :
    (opR (· * ·) x (some (opR (· + ·) y z).1)).1 = (opR (· + ·) (some (opR (· * ·) x y).1) (some (opR (· * ·) x z).1)).1 := by
  obtain ⟨a, b, rfl, rfl, e1⟩ := opR_ok h3
  obtain ⟨c, d, rfl, e, e2⟩ := opR_ok h5
  obtain ⟨f, g, e', _, e3⟩ := opR_ok h9
  obtain ⟨i, j, e'', _, e4⟩ := opR_ok h10
  obtain ⟨k, l, _, _, e5⟩ := opR_ok h11
  simp only [Option.some.injEq] at *
  subst_vars
  rw [e3, e5, e1, e2, e4, Rat.mul_add]
theorem field4 (h1 : (opR (· + ·) x y).2 = 0) (h12 : (opR (· - ·) (some (opR (· + ·) x y).1) y).2 = 0) : x = some (opR (· - ·) (some (opR (· + ·) x y).1) y).1 := by
  obtain ⟨a, b, rfl, rfl, e1⟩ := opR_ok h1
  obtain ⟨c, d, e, e', e2⟩ := opR_ok h12
  simp only [Option.some.injEq] at *
  subst_vars
  rw [e2, e1, Rat.sub_eq_add_neg, Rat.add_assoc, Rat.add_neg_cancel, Rat.add_zero]
theorem field5 (h5 : (opR (· * ·) x y).2 = 0) (h13 : (divR (some (opR (· * ·) x y).1) y).2 = 0) : x = some (divR (some (opR (· * ·) x y).1) y).1 := by
  obtain ⟨a, b, rfl, rfl, e1⟩ := opR_ok h5
  obtain ⟨c, d, e, e', h0, e2⟩ := divR_ok h13
  simp only [Option.some.injEq] at *
  subst_vars
  rw [e2, e1, Rat.div_def, Rat.mul_assoc, Rat.mul_inv_cancel _ h0, Rat.mul_one]
end

set_option maxRecDepth 20000 in
set_option maxHeartbeats 4000000 in
theorem Field_walk (h : Heap) (tb : Tb h) (n1 : Bool) (a1 b1 : Sl) (x : Option Rat) (hx : IsNum h n1 a1 b1 x) (n2 : Bool) (a2 b2 : Sl) (y : Option Rat) (hy : IsNum h n2 a2 b2 y) (n3 : Bool) (a3 b3 : Sl) (z : Option Rat) (hz : IsNum h n3 a3 b3 z) :
    Fn0 T F.law01_NumberField [.agg #[.bool n1, a1.val, b1.val], .agg #[.bool n2, a2.val, b2.val], .agg #[.bool n3, a3.val, b3.val]] h fun v _ => v = .bool true := by
  have c1 := field1 x y z
  have c2 := field2 x y z
  have c3 := field3 x y z
  have c4 := field4 x y
  have c5 := field5 x y
  obtain ⟨p1, g1⟩ : ∃ p, p = opR (· + ·) x y := ⟨_, rfl⟩
  rw [← g1] at c1 c4
  obtain ⟨p2, g2⟩ : ∃ p, p = opR (· + ·) (some p1.1) z := ⟨_, rfl⟩
  rw [← g2] at c1
  obtain ⟨p3, g3⟩ : ∃ p, p = opR (· + ·) y z := ⟨_, rfl⟩
  rw [← g3] at c1 c3
  obtain ⟨p4, g4⟩ : ∃ p, p = opR (· + ·) (some p3.1) x := ⟨_, rfl⟩
  rw [← g4] at c1
  obtain ⟨p5, g5⟩ : ∃ p, p = opR (· * ·) x y := ⟨_, rfl⟩
  rw [← g5] at c2 c3 c5
  obtain ⟨p6, g6⟩ : ∃ p, p = opR (· * ·) (some p5.1) z := ⟨_, rfl⟩
  rw [← g6] at c2
  obtain ⟨p7, g7⟩ : ∃ p, p = opR (· * ·) z y := ⟨_, rfl⟩
  rw [← g7] at c2
  obtain ⟨p8, g8⟩ : ∃ p, p = opR (· * ·) (some p7.1) x := ⟨_, rfl⟩
  rw [← g8] at c2
  obtain ⟨p9, g9⟩ : ∃ p, p = opR (· * ·) x (some p3.1) := ⟨_, rfl⟩
  rw [← g9] at c3
  obtain ⟨p10, g10⟩ : ∃ p, p = opR (· * ·) x z := ⟨_, rfl⟩
  rw [← g10] at c3
  obtain ⟨p11, g11⟩ : ∃ p, p = opR (· + ·) (some p5.1) (some p10.1) := ⟨_, rfl⟩
  rw [← g11] at c3
  obtain ⟨p12, g12⟩ : ∃ p, p = opR (· - ·) (some p1.1) y := ⟨_, rfl⟩
  rw [← g12] at c4
  obtain ⟨p13, g13⟩ : ∃ p, p = divR (some p5.1) y := ⟨_, rfl⟩
  rw [← g13] at c5
  refine fn0_of_codeI ok D.law01_NumberField rfl ?_
  conv => whnf
  repeat ((first | refine opsI.step ?_ | refine codeI.step ?_); conv => whnf)
  repeat' first
   | ((first | refine opsI.step ?_ | refine codeI.step ?_); conv => whnf)
   | (intro (_ : Nat); conv => whnf)
   | (show LdN _ _ _ _ _; first
     | (refine LdN.own 1 rfl rfl ?_; conv => whnf)
     | (refine LdN.own 2 rfl rfl ?_; conv => whnf))
  refine CallN.fn rfl (AddN _ _ _ _ _ _ _ x y (by assumption) (by assumption) (by assumption)) (fun v h1 hl1 hr => ?_)
  rw [← g1] at hr
  obtain ⟨e1, f1, rfl, hq1, hn1⟩ := hr
  conv => whnf
  repeat ((first | refine opsI.step ?_ | refine codeI.step ?_); conv => whnf)
  repeat' first
   | ((first | refine opsI.step ?_ | refine codeI.step ?_); conv => whnf)
   | (intro (_ : Nat); conv => whnf)
   | (show LdN _ _ _ _ _; first
     | (refine LdN.own 0 rfl rfl ?_; conv => whnf)
     | (refine LdN.own 1 rfl rfl ?_; conv => whnf))
   | (show Sto _ _ _ _; first
     | (refine Sto.lit 0 rfl rfl rfl ?_; conv => whnf))
  refine CallN.fn rfl (AddN _ _ _ _ _ _ _ (some p1.1) z (by (iterate 30 (try first | assumption | refine Tb.mono ?_ (by assumption))); first | done | assumption) (by assumption) (by (iterate 30 (try first | assumption | refine IsNum.mono ?_ (by assumption))); first | done | assumption)) (fun v h2 hl2 hr => ?_)
  rw [← g2] at hr
  obtain ⟨e2, f2, rfl, hq2, hn2⟩ := hr
  conv => whnf
  repeat ((first | refine opsI.step ?_ | refine codeI.step ?_); conv => whnf)
  repeat' first
   | ((first | refine opsI.step ?_ | refine codeI.step ?_); conv => whnf)
   | (intro (_ : Nat); conv => whnf)
   | (show LdN _ _ _ _ _; first
     | (refine LdN.own 2 rfl rfl ?_; conv => whnf)
     | (refine LdN.own 3 rfl rfl ?_; conv => whnf))
   | (show Sto _ _ _ _; first
     | (refine Sto.lit 0 rfl rfl rfl ?_; conv => whnf))
  refine CallN.fn rfl (AddN _ _ _ _ _ _ _ y z (by (iterate 30 (try first | assumption | refine Tb.mono ?_ (by assumption))); first | done | assumption) (by (iterate 30 (try first | assumption | refine IsNum.mono ?_ (by assumption))); first | done | assumption) (by (iterate 30 (try first | assumption | refine IsNum.mono ?_ (by assumption))); first | done | assumption)) (fun v h3 hl3 hr => ?_)
  rw [← g3] at hr
  obtain ⟨e3, f3, rfl, hq3, hn3⟩ := hr
  conv => whnf
  repeat ((first | refine opsI.step ?_ | refine codeI.step ?_); conv => whnf)
  repeat' first
   | ((first | refine opsI.step ?_ | refine codeI.step ?_); conv => whnf)
   | (intro (_ : Nat); conv => whnf)
   | (show LdN _ _ _ _ _; first
     | (refine LdN.own 0 rfl rfl ?_; conv => whnf)
     | (refine LdN.own 5 rfl rfl ?_; conv => whnf))
   | (show Sto _ _ _ _; first
     | (refine Sto.lit 0 rfl rfl rfl ?_; conv => whnf))
  refine CallN.fn rfl (AddN _ _ _ _ _ _ _ (some p3.1) x (by (iterate 30 (try first | assumption | refine Tb.mono ?_ (by assumption))); first | done | assumption) (by assumption) (by (iterate 30 (try first | assumption | refine IsNum.mono ?_ (by assumption))); first | done | assumption)) (fun v h4 hl4 hr => ?_)
  rw [← g4] at hr
  obtain ⟨e4, f4, rfl, hq4, hn4⟩ := hr
  conv => whnf
  repeat ((first | refine opsI.step ?_ | refine codeI.step ?_); conv => whnf)
  repeat' first
   | (refine codeI.meetK 5 76 false ?_ ?_ <;> (conv => whnf))
   | (show _ ∧ _ ∧ _ ∧ _; exact ⟨rfl, rfl, (by (iterate 30 (try first | assumption | exact Heap.le_refl _)); first | done | assumption), rfl⟩)
   | (intro (_ : Value); repeat intro (_ : Value); (conv => whnf); intro hm em hlm; (conv at em => lhs; whnf); subst em; conv => whnf)
   | ((first | refine opsI.step ?_ | refine codeI.step ?_); conv => whnf)
   | (intro (_ : Nat); conv => whnf)
   | (show CallN _ _ _ _ _ _; first
     | (refine CallN.fn rfl (EqualN _ _ _ _ _ _ _ (some p2.1) (some p4.1) p4.1 (by rw [c1 (by assumption) (by assumption) (by assumption) (by assumption)]) rfl (by (iterate 30 (try first | assumption | refine IsNum.mono ?_ (by assumption))); first | done | assumption) (by assumption)) (fun v h' hl hr => ?_); obtain rfl := hr; conv => whnf))
   | (show cnd _ _ _; first
     | (refine cnd_eq (fun _ => ?_) (fun _ => ?_) <;> first | (exfalso; omega) | (conv => whnf)))
   | (show LdN _ _ _ _ _; first
     | (refine LdN.own 0 rfl rfl ?_; conv => whnf)
     | (refine LdN.own 2 rfl rfl ?_; conv => whnf)
     | (refine LdN.own 5 rfl rfl ?_; conv => whnf)
     | (refine LdN.own 6 rfl rfl ?_; conv => whnf))
   | (show Sto _ _ _ _; first
     | (refine Sto.lit 0 rfl rfl rfl ?_; conv => whnf))
  skip
  refine CallN.fn rfl (MulN _ _ _ _ _ _ _ x y (by (iterate 30 (try first | assumption | refine Tb.mono ?_ (by assumption))); first | done | assumption) (by (iterate 30 (try first | assumption | refine IsNum.mono ?_ (by assumption))); first | done | assumption) (by (iterate 30 (try first | assumption | refine IsNum.mono ?_ (by assumption))); first | done | assumption)) (fun v h5 hl5 hr => ?_)
  rw [← g5] at hr
  obtain ⟨e5, f5, rfl, hq5, hn5⟩ := hr
  conv => whnf
  repeat ((first | refine opsI.step ?_ | refine codeI.step ?_); conv => whnf)
  repeat' first
   | ((first | refine opsI.step ?_ | refine codeI.step ?_); conv => whnf)
   | (intro (_ : Nat); conv => whnf)
   | (show LdN _ _ _ _ _; first
     | (refine LdN.own 0 rfl rfl ?_; conv => whnf)
     | (refine LdN.own 5 rfl rfl ?_; conv => whnf))
   | (show Sto _ _ _ _; first
     | (refine Sto.lit 0 rfl rfl rfl ?_; conv => whnf))
  refine CallN.fn rfl (MulN _ _ _ _ _ _ _ (some p5.1) z (by (iterate 30 (try first | assumption | refine Tb.mono ?_ (by assumption))); first | done | assumption) (by assumption) (by (iterate 30 (try first | assumption | refine IsNum.mono ?_ (by assumption))); first | done | assumption)) (fun v h6 hl6 hr => ?_)
  rw [← g6] at hr
  obtain ⟨e6, f6, rfl, hq6, hn6⟩ := hr
  conv => whnf
  repeat ((first | refine opsI.step ?_ | refine codeI.step ?_); conv => whnf)
  repeat' first
   | ((first | refine opsI.step ?_ | refine codeI.step ?_); conv => whnf)
   | (intro (_ : Nat); conv => whnf)
   | (show LdN _ _ _ _ _; first
     | (refine LdN.own 6 rfl rfl ?_; conv => whnf)
     | (refine LdN.own 7 rfl rfl ?_; conv => whnf))
   | (show Sto _ _ _ _; first
     | (refine Sto.lit 0 rfl rfl rfl ?_; conv => whnf))
  refine CallN.fn rfl (MulN _ _ _ _ _ _ _ z y (by (iterate 30 (try first | assumption | refine Tb.mono ?_ (by assumption))); first | done | assumption) (by (iterate 30 (try first | assumption | refine IsNum.mono ?_ (by assumption))); first | done | assumption) (by (iterate 30 (try first | assumption | refine IsNum.mono ?_ (by assumption))); first | done | assumption)) (fun v h7 hl7 hr => ?_)
  rw [← g7] at hr
  obtain ⟨e7, f7, rfl, hq7, hn7⟩ := hr
  conv => whnf
  repeat ((first | refine opsI.step ?_ | refine codeI.step ?_); conv => whnf)
  repeat' first
   | ((first | refine opsI.step ?_ | refine codeI.step ?_); conv => whnf)
   | (intro (_ : Nat); conv => whnf)
   | (show LdN _ _ _ _ _; first
     | (refine LdN.own 0 rfl rfl ?_; conv => whnf)
     | (refine LdN.own 9 rfl rfl ?_; conv => whnf))
   | (show Sto _ _ _ _; first
     | (refine Sto.lit 0 rfl rfl rfl ?_; conv => whnf))
  refine CallN.fn rfl (MulN _ _ _ _ _ _ _ (some p7.1) x (by (iterate 30 (try first | assumption | refine Tb.mono ?_ (by assumption))); first | done | assumption) (by assumption) (by (iterate 30 (try first | assumption | refine IsNum.mono ?_ (by assumption))); first | done | assumption)) (fun v h8 hl8 hr => ?_)
  rw [← g8] at hr
  obtain ⟨e8, f8, rfl, hq8, hn8⟩ := hr
  conv => whnf
  repeat ((first | refine opsI.step ?_ | refine codeI.step ?_); conv => whnf)
  repeat' first
   | (refine codeI.meetK 11 120 false ?_ ?_ <;> (conv => whnf))
   | (show _ ∧ _ ∧ _ ∧ _; exact ⟨rfl, rfl, (by (iterate 30 (try first | assumption | exact Heap.le_refl _)); first | done | assumption), rfl⟩)
   | (intro (_ : Value); repeat intro (_ : Value); (conv => whnf); intro hm em hlm; (conv at em => lhs; whnf); subst em; conv => whnf)
   | ((first | refine opsI.step ?_ | refine codeI.step ?_); conv => whnf)
   | (intro (_ : Nat); conv => whnf)
   | (show CallN _ _ _ _ _ _; first
     | (refine CallN.fn rfl (EqualN _ _ _ _ _ _ _ (some p6.1) (some p8.1) p8.1 (by rw [c2 (by assumption) (by assumption) (by assumption) (by assumption)]) rfl (by (iterate 30 (try first | assumption | refine IsNum.mono ?_ (by assumption))); first | done | assumption) (by assumption)) (fun v h' hl hr => ?_); obtain rfl := hr; conv => whnf))
   | (show cnd _ _ _; first
     | (refine cnd_eq (fun _ => ?_) (fun _ => ?_) <;> first | (exfalso; omega) | (conv => whnf)))
   | (show LdN _ _ _ _ _; first
     | (refine LdN.own 0 rfl rfl ?_; conv => whnf)
     | (refine LdN.own 2 rfl rfl ?_; conv => whnf)
     | (refine LdN.own 5 rfl rfl ?_; conv => whnf)
     | (refine LdN.own 10 rfl rfl ?_; conv => whnf))
   | (show Sto _ _ _ _; first
     | (refine Sto.lit 0 rfl rfl rfl ?_; conv => whnf))
  skip
  refine CallN.fn rfl (MulN _ _ _ _ _ _ _ x (some p3.1) (by (iterate 30 (try first | assumption | refine Tb.mono ?_ (by assumption))); first | done | assumption) (by (iterate 30 (try first | assumption | refine IsNum.mono ?_ (by assumption))); first | done | assumption) (by (iterate 30 (try first | assumption | refine IsNum.mono ?_ (by assumption))); first | done | assumption)) (fun v h9 hl9 hr => ?_)
  rw [← g9] at hr
  obtain ⟨e9, f9, rfl, hq9, hn9⟩ := hr
  conv => whnf
  repeat ((first | refine opsI.step ?_ | refine codeI.step ?_); conv => whnf)
  repeat' first
   | ((first | refine opsI.step ?_ | refine codeI.step ?_); conv => whnf)
   | (intro (_ : Nat); conv => whnf)
   | (show LdN _ _ _ _ _; first
     | (refine LdN.own 9 rfl rfl ?_; conv => whnf)
     | (refine LdN.own 11 rfl rfl ?_; conv => whnf))
   | (show Sto _ _ _ _; first
     | (refine Sto.lit 0 rfl rfl rfl ?_; conv => whnf))
  refine CallN.fn rfl (MulN _ _ _ _ _ _ _ x z (by (iterate 30 (try first | assumption | refine Tb.mono ?_ (by assumption))); first | done | assumption) (by (iterate 30 (try first | assumption | refine IsNum.mono ?_ (by assumption))); first | done | assumption) (by (iterate 30 (try first | assumption | refine IsNum.mono ?_ (by assumption))); first | done | assumption)) (fun v h10 hl10 hr => ?_)
  rw [← g10] at hr
  obtain ⟨e10, f10, rfl, hq10, hn10⟩ := hr
  conv => whnf
  repeat ((first | refine opsI.step ?_ | refine codeI.step ?_); conv => whnf)
  repeat' first
   | ((first | refine opsI.step ?_ | refine codeI.step ?_); conv => whnf)
   | (intro (_ : Nat); conv => whnf)
   | (show LdN _ _ _ _ _; first
     | (refine LdN.own 0 rfl rfl ?_; conv => whnf)
     | (refine LdN.own 5 rfl rfl ?_; conv => whnf))
   | (show Sto _ _ _ _; first
     | (refine Sto.lit 0 rfl rfl rfl ?_; conv => whnf))
  refine CallN.fn rfl (AddN _ _ _ _ _ _ _ (some p5.1) (some p10.1) (by (iterate 30 (try first | assumption | refine Tb.mono ?_ (by assumption))); first | done | assumption) (by (iterate 30 (try first | assumption | refine IsNum.mono ?_ (by assumption))); first | done | assumption) (by assumption)) (fun v h11 hl11 hr => ?_)
  rw [← g11] at hr
  obtain ⟨e11, f11, rfl, hq11, hn11⟩ := hr
  conv => whnf
  repeat ((first | refine opsI.step ?_ | refine codeI.step ?_); conv => whnf)
  repeat' first
   | (refine codeI.meetK 16 162 false ?_ ?_ <;> (conv => whnf))
   | (show _ ∧ _ ∧ _ ∧ _; exact ⟨rfl, rfl, (by (iterate 30 (try first | assumption | exact Heap.le_refl _)); first | done | assumption), rfl⟩)
   | (intro (_ : Value); repeat intro (_ : Value); (conv => whnf); intro hm em hlm; (conv at em => lhs; whnf); subst em; conv => whnf)
   | ((first | refine opsI.step ?_ | refine codeI.step ?_); conv => whnf)
   | (intro (_ : Nat); conv => whnf)
   | (show CallN _ _ _ _ _ _; first
     | (refine CallN.fn rfl (EqualN _ _ _ _ _ _ _ (some p9.1) (some p11.1) p11.1 (by rw [c3 (by assumption) (by assumption) (by assumption) (by assumption) (by assumption)]) rfl (by (iterate 30 (try first | assumption | refine IsNum.mono ?_ (by assumption))); first | done | assumption) (by assumption)) (fun v h' hl hr => ?_); obtain rfl := hr; conv => whnf))
   | (show cnd _ _ _; first
     | (refine cnd_eq (fun _ => ?_) (fun _ => ?_) <;> first | (exfalso; omega) | (conv => whnf)))
   | (show LdN _ _ _ _ _; first
     | (refine LdN.own 0 rfl rfl ?_; conv => whnf)
     | (refine LdN.own 2 rfl rfl ?_; conv => whnf)
     | (refine LdN.own 10 rfl rfl ?_; conv => whnf)
     | (refine LdN.own 12 rfl rfl ?_; conv => whnf))
   | (show Sto _ _ _ _; first
     | (refine Sto.lit 0 rfl rfl rfl ?_; conv => whnf))
  skip
  refine CallN.fn rfl (SubN _ _ _ _ _ _ _ (some p1.1) y (by (iterate 30 (try first | assumption | refine Tb.mono ?_ (by assumption))); first | done | assumption) (by (iterate 30 (try first | assumption | refine IsNum.mono ?_ (by assumption))); first | done | assumption) (by (iterate 30 (try first | assumption | refine IsNum.mono ?_ (by assumption))); first | done | assumption)) (fun v h12 hl12 hr => ?_)
  rw [← g12] at hr
  obtain ⟨e12, f12, rfl, hq12, hn12⟩ := hr
  conv => whnf
  repeat ((first | refine opsI.step ?_ | refine codeI.step ?_); conv => whnf)
  repeat' first
   | (refine codeI.meetK 19 180 false ?_ ?_ <;> (conv => whnf))
   | (show _ ∧ _ ∧ _ ∧ _; exact ⟨rfl, rfl, (by (iterate 30 (try first | assumption | exact Heap.le_refl _)); first | done | assumption), rfl⟩)
   | (intro (_ : Value); repeat intro (_ : Value); (conv => whnf); intro hm em hlm; (conv at em => lhs; whnf); subst em; conv => whnf)
   | ((first | refine opsI.step ?_ | refine codeI.step ?_); conv => whnf)
   | (intro (_ : Nat); conv => whnf)
   | (show CallN _ _ _ _ _ _; first
     | (refine CallN.fn rfl (EqualN _ _ _ _ _ _ _ (some p12.1) x p12.1 rfl (c4 (by assumption) (by assumption)) (by assumption) (by (iterate 30 (try first | assumption | refine IsNum.mono ?_ (by assumption))); first | done | assumption)) (fun v h' hl hr => ?_); obtain rfl := hr; conv => whnf))
   | (show cnd _ _ _; first
     | (refine cnd_eq (fun _ => ?_) (fun _ => ?_) <;> first | (exfalso; omega) | (conv => whnf)))
   | (show LdN _ _ _ _ _; first
     | (refine LdN.own 0 rfl rfl ?_; conv => whnf)
     | (refine LdN.own 7 rfl rfl ?_; conv => whnf)
     | (refine LdN.own 13 rfl rfl ?_; conv => whnf)
     | (refine LdN.own 14 rfl rfl ?_; conv => whnf))
   | (show Sto _ _ _ _; first
     | (refine Sto.lit 0 rfl rfl rfl ?_; conv => whnf))
  refine CallN.fn rfl (DivN _ _ _ _ _ _ _ (some p5.1) y (by (iterate 30 (try first | assumption | refine Tb.mono ?_ (by assumption))); first | done | assumption) (by (iterate 30 (try first | assumption | refine IsNum.mono ?_ (by assumption))); first | done | assumption) (by (iterate 30 (try first | assumption | refine IsNum.mono ?_ (by assumption))); first | done | assumption)) (fun v h13 hl13 hr => ?_)
  rw [← g13] at hr
  obtain ⟨e13, f13, rfl, hq13, hn13⟩ := hr
  conv => whnf
  repeat ((first | refine opsI.step ?_ | refine codeI.step ?_); conv => whnf)
  repeat' first
   | (show CallN _ _ _ _ _ _; first
     | (refine CallN.fn rfl (EqualN _ _ _ _ _ _ _ (some p13.1) x p13.1 rfl (c5 (by assumption) (by assumption)) (by assumption) (by (iterate 30 (try first | assumption | refine IsNum.mono ?_ (by assumption))); first | done | assumption)) (fun v h' hl hr => ?_); obtain rfl := hr; conv => whnf)
     | (refine CallN.fn rfl (awake_ct _ (by (iterate 30 (try first | assumption | refine Tb.mono ?_ (by assumption))); first | done | assumption)) (fun v h' hl hr => ?_); obtain rfl := hr; conv => whnf))
   | ((first | refine opsI.step ?_ | refine codeI.step ?_); conv => whnf)
   | (intro (_ : Nat); conv => whnf)
   | (show cnd _ _ _; first
     | (refine cnd_eq (fun _ => ?_) (fun _ => ?_) <;> first | (exfalso; omega) | (conv => whnf))
     | (refine cnd_not ?_))
   | (show LdN _ _ _ _ _; first
     | (refine LdN.own 0 rfl rfl ?_; conv => whnf)
     | (refine LdN.own 15 rfl rfl ?_; conv => whnf))
   | (show Sto _ _ _ _; first
     | (refine Sto.lit 0 rfl rfl rfl ?_; conv => whnf))
  all_goals exact RetN.all rfl
theorem Field_law (h : Heap) (tb : Tb h) (n1 : Bool) (a1 b1 : Sl) (l1 m1 : List Nat) (hv1 : IsVal h a1 b1 l1 m1) (n2 : Bool) (a2 b2 : Sl) (l2 m2 : List Nat) (hv2 : IsVal h a2 b2 l2 m2) (n3 : Bool) (a3 b3 : Sl) (l3 m3 : List Nat) (hv3 : IsVal h a3 b3 l3 m3) :
    Fn0 T F.law01_NumberField [.agg #[.bool n1, a1.val, b1.val], .agg #[.bool n2, a2.val, b2.val], .agg #[.bool n3, a3.val, b3.val]] h fun v _ => v = .bool true :=
  Field_walk h tb n1 a1 b1 _ hv1.num' n2 a2 b2 _ hv2.num' n3 a3 b3 _ hv3.num'
end Go.Proofs.YthgggofobbokeaaDoor
