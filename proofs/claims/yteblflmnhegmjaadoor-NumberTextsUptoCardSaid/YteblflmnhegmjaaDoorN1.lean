/- Contracts of package number's functions, first part: operations on two numbers; sums and differences. -/
import Derived.Test.YteblflmnhegmjaaDoorW10
set_option linter.unusedVariables false
set_option linter.unusedSimpArgs false
namespace Go.Proofs.YteblflmnhegmjaaDoor
open Go Go.Vc Go.Dig

theorem Sz.add {k l : Nat} {q r : Rat} (a : Sz k q) (b : Sz l r) : Sz (k + l + 1) (q + r) := by
  have h := add_le q r
  have p1 := ln_mul two_le_B (nu q) r.den
  have p2 := ln_mul two_le_B (nu r) q.den
  have p3 := ln_mul two_le_B q.den r.den
  have p4 := ln_add two_le_B (nu q * r.den) (nu r * q.den)
  have a1 := a.num
  have a2 := a.den
  have b1 := b.num
  have b2 := b.den
  exact ⟨Nat.le_trans (ln_le_of_le h.1) (by omega), Nat.le_trans (ln_le_of_le h.2) (by omega)⟩
theorem Sz.mul {k l : Nat} {q r : Rat} (a : Sz k q) (b : Sz l r) : Sz (k + l) (q * r) := by
  have h := mul_le q r
  have p1 := ln_mul two_le_B (nu q) (nu r)
  have p3 := ln_mul two_le_B q.den r.den
  have a1 := a.num
  have a2 := a.den
  have b1 := b.num
  have b2 := b.den
  exact ⟨Nat.le_trans (ln_le_of_le h.1) (by omega), Nat.le_trans (ln_le_of_le h.2) (by omega)⟩
theorem Sz.neg {k : Nat} {q : Rat} (s : Sz k q) : Sz k (-q) := ⟨by rw [nu_neg]; exact s.num, by rw [Rat.neg_den]; exact s.den⟩

/-- what an operation on two values hands out -/
def spec2 (op : Rat → Rat → Rat) (n1 : Bool) (l1 m1 : List Nat) (n2 : Bool) (l2 m2 : List Nat) : Rat × Int :=
  if okR n1 l1 m1 ∧ okR n2 l2 m2 then outR (op (ratOf n1 l1 m1) (ratOf n2 l2 m2)) else (0, 1)

/-- a function on two numbers -/
def Op2 (f : FuncId) (op : Rat → Rat → Rat) : Prop := ∀ (h : Heap) (a b c d : Sl) (q r : Rat), Tb h → IsFr h a b q → IsFr h c d r → Sz 64 q → Sz 64 r →
  Fn0 T f [.agg #[.bool (sg q), a.val, b.val], .agg #[.bool (sg r), c.val, d.val]] h fun v h' => ∃ s t : Sl, v = .agg #[.bool (sg (op q r)), s.val, t.val] ∧ IsFr h' s t (op q r)

set_option maxRecDepth 20000 in
set_option maxHeartbeats 1000000 in
theorem two_ct (h : Heap) (tb : Tb h) (n1 : Bool) (a1 b1 : Sl) (l1 m1 : List Nat) (n2 : Bool) (a2 b2 : Sl) (l2 m2 : List Nat) (hv1 : IsVal h a1 b1 l1 m1) (hv2 : IsVal h a2 b2 l2 m2)
    (f : FuncId) (op : Rat → Rat → Rat) (hf : T.fn f = true) (hop : Op2 f op) (hsz : ∀ q r, Sz 64 q → Sz 64 r → Sz 1073741824 (op q r)) :
    Fn0 T F.number_two [.agg #[.bool n1, a1.val, b1.val], .agg #[.bool n2, a2.val, b2.val], .func (.func f) #[] #[]] h fun v h' => Res h' v (spec2 op n1 l1 m1 n2 l2 m2) := by
  have f1 : okR n1 l1 m1 → okR n2 l2 m2 → spec2 op n1 l1 m1 n2 l2 m2 = outR (op (ratOf n1 l1 m1) (ratOf n2 l2 m2)) := fun x y => if_pos ⟨x, y⟩
  have f2 : ¬ okR n1 l1 m1 → spec2 op n1 l1 m1 n2 l2 m2 = (0, 1) := fun x => if_neg fun y => x y.1
  have f3 : ¬ okR n2 l2 m2 → spec2 op n1 l1 m1 n2 l2 m2 = (0, 1) := fun x => if_neg fun y => x y.2
  refine fn0_of_codeI ok D.number_two rfl ?_
  conv => whnf
  repeat ((first | refine opsI.step ?_ | refine codeI.step ?_); conv => whnf)
  repeat' first
   | (show CallN _ _ _ _ _ _; first
     | (refine CallN.fn rfl (Read_ct _ (by (iterate 30 (try first | assumption | refine Tb.mono ?_ (by assumption))); first | done | assumption) _ _ _ l1 m1 (by (iterate 30 (try first | assumption | refine IsVal.mono ?_ (by assumption))); first | done | assumption)) (fun v h' hle1 hr => ?_); obtain ⟨s1, c1, d1, rfl, hok1⟩ := hr; conv => whnf)
     | (refine CallN.fn rfl (Read_ct _ (by (iterate 30 (try first | assumption | refine Tb.mono ?_ (by assumption))); first | done | assumption) _ _ _ l2 m2 (by (iterate 30 (try first | assumption | refine IsVal.mono ?_ (by assumption))); first | done | assumption)) (fun v h' hle2 hr => ?_); obtain ⟨s2, c2, d2, rfl, hok2⟩ := hr; conv => whnf))
   | ((first | refine opsI.step ?_ | refine codeI.step ?_); conv => whnf)
   | (intro (_ : Nat); conv => whnf)
   | (show cnd _ _ _; first
     | (refine cnd_not ?_)
     | (refine cnd_dec (fun _ => ?_) (fun _ => ?_) <;> first | (exfalso; omega) | (conv => whnf)))
   | (show LdN _ _ _ _ _; first
     | (refine LdN.own 0 rfl rfl ?_; conv => whnf)
     | (refine LdN.own 1 rfl rfl ?_; conv => whnf)
     | (refine LdN.own 2 rfl rfl ?_; conv => whnf))
   | (show Sto _ _ _ _; first
     | (refine Sto.lit 0 rfl rfl rfl ?_; conv => whnf)
     | (refine Sto.lit 2 rfl rfl rfl ?_; conv => whnf))
  · obtain ⟨rfl, g1⟩ := hok1 (by assumption)
    obtain ⟨rfl, g2⟩ := hok2 (by assumption)
    have z1 := okR.sz (show okR n1 l1 m1 by assumption)
    have z2 := okR.sz (show okR n2 l2 m2 by assumption)
    have z3 := hsz _ _ z1 z2
    rw [f1 (by assumption) (by assumption)]
    refine CallN.fn hf (hop _ _ _ _ _ _ _ (by (iterate 30 (try first | assumption | refine Tb.mono ?_ (by assumption))); first | done | assumption) (by (iterate 30 (try first | assumption | refine IsFr.mono ?_ (by assumption))); first | done | assumption) (by assumption) z1 z2) (fun v h3 hle3 hr => ?_)
    obtain ⟨s, t, rfl, hq⟩ := hr
    conv => whnf
    repeat ((first | refine opsI.step ?_ | refine codeI.step ?_); conv => whnf)
    repeat' first
     | (show CallN _ _ _ _ _ _; first
       | (refine CallN.fn rfl (Give_ct _ _ _ _ (by assumption) z3) (fun v h' hl hr => ?_); obtain ⟨e1, e2, rfl, hq'⟩ := hr; conv => whnf))
     | ((first | refine opsI.step ?_ | refine codeI.step ?_); conv => whnf)
     | (show LdN _ _ _ _ _; first
       | (refine LdN.own 2 rfl rfl ?_; conv => whnf))
     | (show Sto _ _ _ _; first
       | (refine Sto.lit 2 rfl rfl rfl ?_; conv => whnf))
    exact RetN.all ⟨_, _, rfl, (by assumption)⟩
  · rw [f3 (by assumption)]; exact RetN.all (Res.err _ _)
  · rw [f2 (by assumption)]; exact RetN.all (Res.err _ _)

theorem Op2.add : Op2 F.word_Frac_Add (· + ·) := fun h a b c d q r tb h1 h2 z1 z2 => FAdd_ct h tb a b c d q r h1 h2 (z1.mono (by decide)) (z2.mono (by decide))
theorem Op2.mul : Op2 F.word_Frac_Mul (· * ·) := fun h a b c d q r tb h1 h2 z1 z2 => FMul_ct h tb a b c d q r h1 h2 (z1.mono (by decide)) (z2.mono (by decide))
theorem Op2.sub : Op2 F.number_Sub_1 (· - ·) := fun h a b c d q r tb h1 h2 z1 z2 => by
  have y1 : Sz 1073741824 q := z1.mono (by decide)
  have y2 : Sz 1073741824 (-r) := (Sz.neg z2).mono (by decide)
  have y3 : Sz 1099511627776 r := z2.mono (by decide)
  have h3 := IsFr.neg h2
  have e : q - r = q + -r := Rat.sub_eq_add_neg q r
  refine fn0_of_codeI ok D.number_Sub_1 rfl ?_
  conv => whnf
  repeat ((first | refine opsI.step ?_ | refine codeI.step ?_); conv => whnf)
  repeat' first
   | (show CallN _ _ _ _ _ _; first
     | (refine CallN.quiet rfl (Opposite_ct _ _ _ _ (by assumption) y3) ?_; conv => whnf)
     | (refine CallN.fn rfl (FAdd_ct _ (by assumption) _ _ _ _ _ _ (by assumption) (by assumption) y1 y2) (fun v h' hl hr => ?_); obtain ⟨e1, e2, rfl, hq'⟩ := hr; conv => whnf))
   | ((first | refine opsI.step ?_ | refine codeI.step ?_); conv => whnf)
   | (refine ⟨fun _ => HasLe.of_le (Heap.le_refl _), ?_⟩; conv => whnf)
   | (refine ⟨fun _ => HasLe.of_le (by assumption), ?_⟩; conv => whnf)
   | (refine ⟨fun hst => (by cases (show true = false from hst)), ?_⟩; conv => whnf)
   | (intro (_ : Nat); conv => whnf)
   | (show LdN _ _ _ _ _; first
     | (refine LdN.own 0 rfl rfl ?_; conv => whnf)
     | (refine LdN.own 1 rfl rfl ?_; conv => whnf)
     | (refine LdN.own 2 rfl rfl ?_; conv => whnf))
   | (show Sto _ _ _ _; first
     | (refine Sto.lit 0 rfl rfl rfl ?_; conv => whnf))
   | (show DrawN _ _ _ _ _ _; first
     | (refine DrawN.run (by decide +kernel) ?_; conv => whnf))
  refine RetN.all ⟨e1, e2, ?_, ?_⟩
  · show _ = Value.agg #[.bool (sg (q - r)), _, _]
    rw [e] <;> rfl
  · show IsFr _ _ _ (q - r)
    rw [e]; exact (by assumption)

/-- half the sum -/
def half (q r : Rat) : Rat := (q + r) / ((2 : Int) : Rat)
theorem Sz.mid {k l : Nat} {q r : Rat} (a : Sz k q) (b : Sz l r) : Sz (k + l + 4) (half q r) := by
  have s := Sz.add a b
  have h := mkQ_le (sg (q + r)) (m := nu (q + r)) (n := (q + r).den * 2) (by have := (q + r).den_nz; omega)
  have p1 := ln_mul two_le_B (q + r).den 2
  have p2 : ln 4294967296 2 ≤ 2 := by have := ln_two_pow 1; exact this
  have a1 := s.num
  have a2 := s.den
  unfold half
  rw [half_q]
  exact ⟨Nat.le_trans (ln_le_of_le h.1) (by omega), Nat.le_trans (ln_le_of_le h.2) (by omega)⟩

/-- the arguments of a function of two values -/
structure Args2 (h : Heap) (a1 b1 : Sl) (l1 m1 : List Nat) (a2 b2 : Sl) (l2 m2 : List Nat) : Prop where
  tb : Tb h
  x : IsVal h a1 b1 l1 m1
  y : IsVal h a2 b2 l2 m2
theorem NAdd_ct (h : Heap) (n1 : Bool) (a1 b1 : Sl) (l1 m1 : List Nat) (n2 : Bool) (a2 b2 : Sl) (l2 m2 : List Nat) (tb : Tb h) (hv1 : IsVal h a1 b1 l1 m1) (hv2 : IsVal h a2 b2 l2 m2) :
    Fn0 T F.number_Add [.agg #[.bool n1, a1.val, b1.val], .agg #[.bool n2, a2.val, b2.val]] h fun v h' => Res h' v (spec2 (· + ·) n1 l1 m1 n2 l2 m2) := by
  refine fn0_of_codeI ok D.number_Add rfl ?_
  conv => whnf
  repeat ((first | refine opsI.step ?_ | refine codeI.step ?_); conv => whnf)
  repeat' first
   | (show CallN _ _ _ _ _ _; first
     | (refine CallN.fn rfl (two_ct _ (by assumption) _ _ _ _ _ _ _ _ _ _ (by assumption) (by assumption) _ _ rfl Op2.add (fun q r a b => (Sz.add a b).mono (by decide))) (fun v h' hl hr => ?_); obtain ⟨e1, e2, rfl, hq'⟩ := hr; conv => whnf))
   | ((first | refine opsI.step ?_ | refine codeI.step ?_); conv => whnf)
   | (intro (_ : Nat); conv => whnf)
   | (show LdN _ _ _ _ _; first
     | (refine LdN.own 0 rfl rfl ?_; conv => whnf)
     | (refine LdN.own 1 rfl rfl ?_; conv => whnf)
     | (refine LdN.own 2 rfl rfl ?_; conv => whnf))
   | (show Sto _ _ _ _; first
     | (refine Sto.lit 0 rfl rfl rfl ?_; conv => whnf))
  exact RetN.all ⟨_, _, rfl, (by assumption)⟩
theorem NSub_ct (h : Heap) (n1 : Bool) (a1 b1 : Sl) (l1 m1 : List Nat) (n2 : Bool) (a2 b2 : Sl) (l2 m2 : List Nat) (tb : Tb h) (hv1 : IsVal h a1 b1 l1 m1) (hv2 : IsVal h a2 b2 l2 m2) :
    Fn0 T F.number_Sub [.agg #[.bool n1, a1.val, b1.val], .agg #[.bool n2, a2.val, b2.val]] h fun v h' => Res h' v (spec2 (· - ·) n1 l1 m1 n2 l2 m2) := by
  refine fn0_of_codeI ok D.number_Sub rfl ?_
  conv => whnf
  repeat ((first | refine opsI.step ?_ | refine codeI.step ?_); conv => whnf)
  repeat' first
   | (show CallN _ _ _ _ _ _; first
     | (refine CallN.fn rfl (two_ct _ (by assumption) _ _ _ _ _ _ _ _ _ _ (by assumption) (by assumption) _ _ rfl Op2.sub (fun q r a b => by rw [Rat.sub_eq_add_neg]; exact (Sz.add a (Sz.neg b)).mono (by decide))) (fun v h' hl hr => ?_); obtain ⟨e1, e2, rfl, hq'⟩ := hr; conv => whnf))
   | ((first | refine opsI.step ?_ | refine codeI.step ?_); conv => whnf)
   | (intro (_ : Nat); conv => whnf)
   | (show LdN _ _ _ _ _; first
     | (refine LdN.own 0 rfl rfl ?_; conv => whnf)
     | (refine LdN.own 1 rfl rfl ?_; conv => whnf)
     | (refine LdN.own 2 rfl rfl ?_; conv => whnf))
   | (show Sto _ _ _ _; first
     | (refine Sto.lit 0 rfl rfl rfl ?_; conv => whnf))
  exact RetN.all ⟨_, _, rfl, (by assumption)⟩
end Go.Proofs.YteblflmnhegmjaaDoor
