/- Contracts of package number's functions, second part: operations on one number, products and quotients, rounding, comparison, powers, ints. -/
import Derived.Test.YtdemgbmndijkkaaGreatDoorW10
import Derived.Test.YtdemgbmndijkkaaGreatDoorRep3
import Derived.Test.YtdemgbmndijkkaaGreatDoorL3
set_option linter.unusedVariables false
set_option linter.unusedSimpArgs false
namespace Go.Proofs.YtdemgbmndijkkaaGreatDoor
open Go Go.Vc Go.Dig

/-- what an operation on one value hands out -/
def spec1 (op : Rat → Rat) (n : Bool) (l m : List Nat) : Rat × Int :=
  if okR n l m then outR (op (ratOf n l m)) else (0, 1)
/-- a function on one number -/
def Op1 (f : FuncId) (op : Rat → Rat) : Prop := ∀ (h : Heap) (a b : Sl) (q : Rat), Tb h → IsFr h a b q → Sz 64 q →
  Fn0 T f [.agg #[.bool (sg q), a.val, b.val]] h fun v h' => ∃ s t : Sl, v = .agg #[.bool (sg (op q)), s.val, t.val] ∧ IsFr h' s t (op q)

set_option maxRecDepth 20000 in
set_option maxHeartbeats 1000000 in
theorem one_ct (h : Heap) (tb : Tb h) (n1 : Bool) (a1 b1 : Sl) (l1 m1 : List Nat) (hv1 : IsVal h a1 b1 l1 m1)
    (f : FuncId) (op : Rat → Rat) (hf : T.fn f = true) (hop : Op1 f op) (hsz : ∀ q, Sz 64 q → Sz 1073741824 (op q)) :
    Fn0 T F.number_one [.agg #[.bool n1, a1.val, b1.val], .func (.func f) #[] #[]] h fun v h' => Res h' v (spec1 op n1 l1 m1) := by
  have f1 : okR n1 l1 m1 → spec1 op n1 l1 m1 = outR (op (ratOf n1 l1 m1)) := fun x => if_pos x
  have f2 : ¬ okR n1 l1 m1 → spec1 op n1 l1 m1 = (0, 1) := fun x => if_neg x
  refine fn0_of_codeI ok D.number_one rfl ?_
  conv => whnf
  repeat ((first | refine opsI.step ?_ | refine codeI.step ?_); conv => whnf)
  repeat' first
   | (show CallN _ _ _ _ _ _; first
     | (refine CallN.fn rfl (Read_ct _ (by assumption) _ _ _ l1 m1 (by assumption)) (fun v h' hle1 hr => ?_); obtain ⟨s1, c1, d1, rfl, hok1⟩ := hr; conv => whnf))
   | ((first | refine opsI.step ?_ | refine codeI.step ?_); conv => whnf)
   | (intro (_ : Nat); conv => whnf)
   | (show cnd _ _ _; first
     | (refine cnd_not ?_)
     | (refine cnd_dec (fun _ => ?_) (fun _ => ?_) <;> first | (exfalso; omega) | (conv => whnf)))
   | (show LdN _ _ _ _ _; first
     | (refine LdN.own 0 rfl rfl ?_; conv => whnf)
     | (refine LdN.own 1 rfl rfl ?_; conv => whnf))
   | (show Sto _ _ _ _; first
     | (refine Sto.lit 0 rfl rfl rfl ?_; conv => whnf)
     | (refine Sto.lit 1 rfl rfl rfl ?_; conv => whnf))
  · obtain ⟨rfl, g1⟩ := hok1 (by assumption)
    have z1 := okR.sz (show okR n1 l1 m1 by assumption)
    have z3 := hsz _ z1
    rw [f1 (by assumption)]
    refine CallN.fn hf (hop _ _ _ _ (by (iterate 30 (try first | assumption | refine Tb.mono ?_ (by assumption))); first | done | assumption) (by assumption) z1) (fun v h3 hle3 hr => ?_)
    obtain ⟨s, t, rfl, hq⟩ := hr
    conv => whnf
    repeat ((first | refine opsI.step ?_ | refine codeI.step ?_); conv => whnf)
    repeat' first
     | (show CallN _ _ _ _ _ _; first
       | (refine CallN.fn rfl (Give_ct _ _ _ _ (by assumption) z3) (fun v h' hl hr => ?_); obtain ⟨e1, e2, rfl, hq'⟩ := hr; conv => whnf))
     | ((first | refine opsI.step ?_ | refine codeI.step ?_); conv => whnf)
     | (show LdN _ _ _ _ _; first
       | (refine LdN.own 1 rfl rfl ?_; conv => whnf))
     | (show Sto _ _ _ _; first
       | (refine Sto.lit 1 rfl rfl rfl ?_; conv => whnf))
    exact RetN.all ⟨_, _, rfl, (by assumption)⟩
  · rw [f2 (by assumption)]; exact RetN.all (Res.err _ _)

theorem Op1.id : Op1 F.number_Canon_1 (fun q => q) := fun h a b q tb h1 z1 => by
  refine fn0_of_codeI ok D.number_Canon_1 rfl ?_
  conv => whnf
  repeat ((first | refine opsI.step ?_ | refine codeI.step ?_); conv => whnf)
  repeat' first
   | ((first | refine opsI.step ?_ | refine codeI.step ?_); conv => whnf)
   | (intro (_ : Nat); conv => whnf)
   | (show LdN _ _ _ _ _; first
     | (refine LdN.own 0 rfl rfl ?_; conv => whnf)
     | (refine LdN.own 1 rfl rfl ?_; conv => whnf))
   | (show Sto _ _ _ _; first
     | (refine Sto.lit 0 rfl rfl rfl ?_; conv => whnf))
  exact RetN.all ⟨_, _, rfl, (by assumption)⟩
theorem NCanon_ct (h : Heap) (tb : Tb h) (n1 : Bool) (a1 b1 : Sl) (l1 m1 : List Nat) (hv1 : IsVal h a1 b1 l1 m1) :
    Fn0 T F.number_Canon [.agg #[.bool n1, a1.val, b1.val]] h fun v h' => Res h' v (spec1 (fun q => q) n1 l1 m1) := by
  refine fn0_of_codeI ok D.number_Canon rfl ?_
  conv => whnf
  repeat ((first | refine opsI.step ?_ | refine codeI.step ?_); conv => whnf)
  repeat' first
   | (show CallN _ _ _ _ _ _; first
     | (refine CallN.fn rfl (one_ct _ (by assumption) _ _ _ _ _ (by assumption) _ _ rfl Op1.id (fun q a => a.mono (by decide))) (fun v h' hl hr => ?_); obtain ⟨e1, e2, rfl, hq'⟩ := hr; conv => whnf))
   | ((first | refine opsI.step ?_ | refine codeI.step ?_); conv => whnf)
   | (intro (_ : Nat); conv => whnf)
   | (show LdN _ _ _ _ _; first
     | (refine LdN.own 0 rfl rfl ?_; conv => whnf)
     | (refine LdN.own 1 rfl rfl ?_; conv => whnf))
   | (show Sto _ _ _ _; first
     | (refine Sto.lit 0 rfl rfl rfl ?_; conv => whnf))
  exact RetN.all ⟨_, _, rfl, (by assumption)⟩

theorem Sz.grid {k : Nat} {q : Rat} (s : Sz k q) (p : Nat) (up : Bool) : Sz (k + p + 3) (gridQ q p up) := by
  have hd : 2 ^ p ≠ 0 := two_pow_ne p
  have e := grid_eq q p up
  obtain ⟨P, hP⟩ : ∃ P, P = 2 ^ p := ⟨_, rfl⟩
  have p1 := ln_mul two_le_B (nu q) (2 ^ p)
  have p2 := ln_two_pow p
  rw [← hP] at hd e p1 p2
  obtain ⟨N, hN⟩ : ∃ N, N = nu q * P := ⟨_, rfl⟩
  rw [← hN] at p1 e
  have p3 := ln_div N q.den
  have p5 := ln_add two_le_B (N / q.den) 1
  have p6 := ln_one 4294967296 two_le_B
  have a1 := s.num
  obtain ⟨c, hc, hc1⟩ : ∃ c, c = (if up = sg q ∨ N % q.den = 0 then 0 else 1) ∧ c ≤ 1 := ⟨_, rfl, by split <;> omega⟩
  rw [← hc] at e
  have h := mkQ_le (sg q) (m := N / q.den + c) (n := P) hd
  rw [e]
  have h1 : nu (mkQ (sg q) (N / q.den + c) P) ≤ N / q.den + 1 := by omega
  exact ⟨Nat.le_trans (ln_le_of_le h1) (by omega), Nat.le_trans (ln_le_of_le h.2) (by omega)⟩
theorem Op1.floor : Op1 F.number_Floor_1 (fun q => gridQ q 0 false) := fun h a b q tb h1 z1 => by
  have y1 : Sz 1073741824 q := z1.mono (by decide)
  refine fn0_of_codeI ok D.number_Floor_1 rfl ?_
  conv => whnf
  repeat ((first | refine opsI.step ?_ | refine codeI.step ?_); conv => whnf)
  repeat' first
   | (show CallN _ _ _ _ _ _; first
     | (refine CallN.fn rfl (FGrid_ct _ (by assumption) _ _ _ 0 false (by assumption) y1 (by decide)) (fun v h' hl hr => ?_); obtain ⟨e1, e2, rfl, hq'⟩ := hr; conv => whnf))
   | ((first | refine opsI.step ?_ | refine codeI.step ?_); conv => whnf)
   | (intro (_ : Nat); conv => whnf)
   | (show LdN _ _ _ _ _; first
     | (refine LdN.own 0 rfl rfl ?_; conv => whnf)
     | (refine LdN.own 1 rfl rfl ?_; conv => whnf))
   | (show Sto _ _ _ _; first
     | (refine Sto.lit 0 rfl rfl rfl ?_; conv => whnf))
  exact RetN.all ⟨_, _, rfl, (by assumption)⟩
theorem NFloor_ct (h : Heap) (tb : Tb h) (n1 : Bool) (a1 b1 : Sl) (l1 m1 : List Nat) (hv1 : IsVal h a1 b1 l1 m1) :
    Fn0 T F.number_Floor [.agg #[.bool n1, a1.val, b1.val]] h fun v h' => Res h' v (spec1 (fun q => gridQ q 0 false) n1 l1 m1) := by
  refine fn0_of_codeI ok D.number_Floor rfl ?_
  conv => whnf
  repeat ((first | refine opsI.step ?_ | refine codeI.step ?_); conv => whnf)
  repeat' first
   | (show CallN _ _ _ _ _ _; first
     | (refine CallN.fn rfl (one_ct _ (by assumption) _ _ _ _ _ (by assumption) _ _ rfl Op1.floor (fun q a => (Sz.grid a 0 false).mono (by decide))) (fun v h' hl hr => ?_); obtain ⟨e1, e2, rfl, hq'⟩ := hr; conv => whnf))
   | ((first | refine opsI.step ?_ | refine codeI.step ?_); conv => whnf)
   | (intro (_ : Nat); conv => whnf)
   | (show LdN _ _ _ _ _; first
     | (refine LdN.own 0 rfl rfl ?_; conv => whnf)
     | (refine LdN.own 1 rfl rfl ?_; conv => whnf))
   | (show Sto _ _ _ _; first
     | (refine Sto.lit 0 rfl rfl rfl ?_; conv => whnf))
  exact RetN.all ⟨_, _, rfl, (by assumption)⟩
theorem NMul_ct (h : Heap) (tb : Tb h) (n1 : Bool) (a1 b1 : Sl) (l1 m1 : List Nat) (n2 : Bool) (a2 b2 : Sl) (l2 m2 : List Nat) (hv1 : IsVal h a1 b1 l1 m1) (hv2 : IsVal h a2 b2 l2 m2) :
    Fn0 T F.number_Mul [.agg #[.bool n1, a1.val, b1.val], .agg #[.bool n2, a2.val, b2.val]] h fun v h' => Res h' v (spec2 (· * ·) n1 l1 m1 n2 l2 m2) := by
  refine fn0_of_codeI ok D.number_Mul rfl ?_
  conv => whnf
  repeat ((first | refine opsI.step ?_ | refine codeI.step ?_); conv => whnf)
  repeat' first
   | (show CallN _ _ _ _ _ _; first
     | (refine CallN.fn rfl (two_ct _ (by assumption) _ _ _ _ _ _ _ _ _ _ (by assumption) (by assumption) _ _ rfl Op2.mul (fun q r a b => (Sz.mul a b).mono (by decide))) (fun v h' hl hr => ?_); obtain ⟨e1, e2, rfl, hq'⟩ := hr; conv => whnf))
   | ((first | refine opsI.step ?_ | refine codeI.step ?_); conv => whnf)
   | (intro (_ : Nat); conv => whnf)
   | (show LdN _ _ _ _ _; first
     | (refine LdN.own 0 rfl rfl ?_; conv => whnf)
     | (refine LdN.own 1 rfl rfl ?_; conv => whnf)
     | (refine LdN.own 2 rfl rfl ?_; conv => whnf))
   | (show Sto _ _ _ _; first
     | (refine Sto.lit 0 rfl rfl rfl ?_; conv => whnf))
  exact RetN.all ⟨_, _, rfl, (by assumption)⟩

/-- what a division hands out -/
def specDiv (n1 : Bool) (l1 m1 : List Nat) (n2 : Bool) (l2 m2 : List Nat) : Rat × Int :=
  if okR n1 l1 m1 ∧ okR n2 l2 m2 then (if nu (ratOf n2 l2 m2) = 0 then (0, 10) else outR (ratOf n1 l1 m1 / ratOf n2 l2 m2)) else (0, 1)
theorem Sz.inv {k : Nat} {q : Rat} (s : Sz k q) (h : nu q ≠ 0) : Sz k q⁻¹ := ⟨by rw [nu_inv q h]; exact s.den, by rw [den_inv q h]; exact s.num⟩
set_option maxRecDepth 20000 in
set_option maxHeartbeats 1000000 in
theorem NDiv_ct (h : Heap) (tb : Tb h) (n1 : Bool) (a1 b1 : Sl) (l1 m1 : List Nat) (n2 : Bool) (a2 b2 : Sl) (l2 m2 : List Nat) (hv1 : IsVal h a1 b1 l1 m1) (hv2 : IsVal h a2 b2 l2 m2) :
    Fn0 T F.number_Div [.agg #[.bool n1, a1.val, b1.val], .agg #[.bool n2, a2.val, b2.val]] h fun v h' => Res h' v (specDiv n1 l1 m1 n2 l2 m2) := by
  have f1 : okR n1 l1 m1 → okR n2 l2 m2 → nu (ratOf n2 l2 m2) ≠ 0 → specDiv n1 l1 m1 n2 l2 m2 = outR (ratOf n1 l1 m1 * (ratOf n2 l2 m2)⁻¹) := fun x y z => by unfold specDiv; rw [if_pos ⟨x, y⟩, if_neg z, Rat.div_def]
  have f2 : ¬ okR n1 l1 m1 → specDiv n1 l1 m1 n2 l2 m2 = (0, 1) := fun x => if_neg fun y => x y.1
  have f3 : ¬ okR n2 l2 m2 → specDiv n1 l1 m1 n2 l2 m2 = (0, 1) := fun x => if_neg fun y => x y.2
  have f4 : okR n1 l1 m1 → okR n2 l2 m2 → nu (ratOf n2 l2 m2) = 0 → specDiv n1 l1 m1 n2 l2 m2 = (0, 10) := fun x y z => by unfold specDiv; rw [if_pos ⟨x, y⟩, if_pos z]
  refine fn0_of_codeI ok D.number_Div rfl ?_
  conv => whnf
  repeat ((first | refine opsI.step ?_ | refine codeI.step ?_); conv => whnf)
  repeat' first
   | (show CallN _ _ _ _ _ _; first
     | (refine CallN.fn rfl (Read_ct _ (by (iterate 30 (try first | assumption | refine Tb.mono ?_ (by assumption))); first | done | assumption) _ _ _ l1 m1 (by (iterate 30 (try first | assumption | refine IsVal.mono ?_ (by assumption))); first | done | assumption)) (fun v h' hle1 hr => ?_); obtain ⟨s1, c1, d1, rfl, hok1⟩ := hr; conv => whnf)
     | (refine CallN.fn rfl (Read_ct _ (by (iterate 30 (try first | assumption | refine Tb.mono ?_ (by assumption))); first | done | assumption) _ _ _ l2 m2 (by (iterate 30 (try first | assumption | refine IsVal.mono ?_ (by assumption))); first | done | assumption)) (fun v h' hle2 hr => ?_); obtain ⟨s2, c2, d2, rfl, hok2⟩ := hr; conv => whnf))
   | ((first | refine opsI.step ?_ | refine codeI.step ?_); conv => whnf)
   | (intro (_ : Nat); conv => whnf)
   | (show cnd _ _ _; first
     | (refine cnd_not ?_)
     | (refine cnd_dec (fun _ => ?_) (fun _ => ?_) <;> first | (exfalso; omega) | (conv => whnf)))
   | (show LdN _ _ _ _ _; first
     | (refine LdN.own 2 rfl rfl ?_; conv => whnf))
   | (show Ld _ _ _ _; first
     | (refine Ld.own 0 rfl rfl ?_; conv => whnf))
   | (show Sto _ _ _ _; first
     | (refine Sto.lit 0 rfl rfl rfl ?_; conv => whnf)
     | (refine Sto.lit 2 rfl rfl rfl ?_; conv => whnf))
  all_goals first
    | (rw [f2 (by assumption)]; exact RetN.all (Res.err _ _))
    | (rw [f3 (by assumption)]; exact RetN.all (Res.err _ _))
    | skip
  obtain ⟨rfl, g1⟩ := hok1 (by assumption)
  obtain ⟨rfl, g2⟩ := hok2 (by assumption)
  have k1 : okR n1 l1 m1 := by assumption
  have k2 : okR n2 l2 m2 := by assumption
  have z1 := okR.sz k1
  have z2 := okR.sz k2
  have y1 : Sz 1073741824 (ratOf n1 l1 m1) := z1.mono (by decide)
  have t2 := z2.num
  have i2 := g2.num
  have g4 := f4 k1 k2
  have g1' := f1 k1 k2
  obtain ⟨q, hq⟩ : ∃ q, q = ratOf n1 l1 m1 := ⟨_, rfl⟩
  obtain ⟨r, hr⟩ : ∃ r, r = ratOf n2 l2 m2 := ⟨_, rfl⟩
  rw [← hq] at g1 z1 y1 g1'
  rw [← hr] at g2 z2 t2 i2 g4 g1'
  rw [← hq, ← hr]
  have y2 : nu r ≠ 0 → Sz 1073741824 r⁻¹ := fun hz => (Sz.inv z2 hz).mono (by decide)
  have y3 : nu r ≠ 0 → Sz 1073741824 (q * r⁻¹) := fun hz => (Sz.mul z1 (Sz.inv z2 hz)).mono (by decide)
  repeat' first
   | (show CallN _ _ _ _ _ _; first
     | (refine CallN.quiet rfl (Zero_ct _ _ _ (by assumption) (by omega)) ?_; conv => whnf)
     | (refine CallN.quiet rfl (Inverse_ct _ _ _ _ (by assumption) (by assumption)) ?_; have g3 := IsFr.inv (show IsFr _ _ _ r from (by assumption)) (by assumption); conv => whnf)
     | (refine CallN.fn rfl (FMul_ct _ (by (iterate 30 (try first | assumption | refine Tb.mono ?_ (by assumption))); first | done | assumption) _ _ _ _ q r⁻¹ (by (iterate 30 (try first | assumption | refine IsFr.mono ?_ (by assumption))); first | done | assumption) (by assumption) y1 (y2 (by assumption))) (fun v h' hl hr => ?_); obtain ⟨e1, e2, rfl, hq'⟩ := hr; conv => whnf)
     | (refine CallN.fn rfl (Give_ct _ _ _ _ (by assumption) (y3 (by assumption))) (fun v h' hl hr => ?_); obtain ⟨e1, e2, rfl, hq''⟩ := hr; conv => whnf))
   | ((first | refine opsI.step ?_ | refine codeI.step ?_); conv => whnf)
   | (refine ⟨fun _ => HasLe.of_le (Heap.le_refl _), ?_⟩; conv => whnf)
   | (refine ⟨fun _ => HasLe.of_le (by assumption), ?_⟩; conv => whnf)
   | (refine ⟨fun hst => (by cases (show true = false from hst)), ?_⟩; conv => whnf)
   | (show cnd _ _ _; first
     | (refine cnd_dec (fun _ => ?_) (fun _ => ?_) <;> first | (exfalso; omega) | (conv => whnf)))
   | (show LdN _ _ _ _ _; first
     | (refine LdN.own 0 rfl rfl ?_; conv => whnf)
     | (refine LdN.own 1 rfl rfl ?_; conv => whnf)
     | (refine LdN.own 2 rfl rfl ?_; conv => whnf))
   | (show Sto _ _ _ _; first
     | (refine Sto.lit 2 rfl rfl rfl ?_; conv => whnf))
   | (show DrawN _ _ _ _ _ _; first
     | (refine DrawN.run (by decide +kernel) ?_; conv => whnf))
  all_goals first
    | (rw [g4 (by assumption)]; exact RetN.all (Res.err _ _))
    | (rw [g1' (by assumption)]; exact RetN.all ⟨_, _, rfl, (by assumption)⟩)

/-- what rounding hands out -/
def specGrid (up : Bool) (n : Bool) (l m : List Nat) (p : Int) : Rat × Int :=
  if okR n l m then (if p < 0 ∨ 256 < p then (0, 2) else outR (gridQ (ratOf n l m) p.toNat up)) else (0, 1)
set_option maxRecDepth 20000 in
set_option maxHeartbeats 1000000 in
theorem round_ct (h : Heap) (tb : Tb h) (n1 : Bool) (a1 b1 : Sl) (l1 m1 : List Nat) (hv1 : IsVal h a1 b1 l1 m1) (p : Int) (up : Bool) :
    Fn0 T F.number_round [.agg #[.bool n1, a1.val, b1.val], .int .i64 p, .bool up] h fun v h' => Res h' v (specGrid up n1 l1 m1 p) := by
  have f1 : ∀ P : Nat, p = P → P ≤ 256 → okR n1 l1 m1 → specGrid up n1 l1 m1 p = outR (gridQ (ratOf n1 l1 m1) P up) := fun P hP hP2 x => by unfold specGrid; rw [if_pos x, if_neg (by omega), hP, Int.toNat_natCast]
  have f2 : ¬ okR n1 l1 m1 → specGrid up n1 l1 m1 p = (0, 1) := fun x => if_neg x
  have f3 : okR n1 l1 m1 → (p < 0 ∨ 256 < p) → specGrid up n1 l1 m1 p = (0, 2) := fun x y => by unfold specGrid; rw [if_pos x, if_pos y]
  replace f1 := Hq.mk f1
  refine fn0_of_codeI ok D.number_round rfl ?_
  conv => whnf
  repeat ((first | refine opsI.step ?_ | refine codeI.step ?_); conv => whnf)
  repeat' first
   | (show CallN _ _ _ _ _ _; first
     | (refine CallN.fn rfl (Read_ct _ (by assumption) _ _ _ l1 m1 (by assumption)) (fun v h' hle1 hr => ?_); obtain ⟨s1, c1, d1, rfl, hok1⟩ := hr; conv => whnf))
   | ((first | refine opsI.step ?_ | refine codeI.step ?_); conv => whnf)
   | (intro (_ : Nat); conv => whnf)
   | (show cnd _ _ _; first
     | (refine cnd_lt (fun _ => ?_) (fun _ => ?_) <;> first | (exfalso; omega) | (conv => whnf))
     | (refine cnd_not ?_)
     | (refine cnd_dec (fun _ => ?_) (fun _ => ?_) <;> first | (exfalso; omega) | (conv => whnf)))
   | (show LdN _ _ _ _ _; first
     | (refine LdN.own 0 rfl rfl ?_; conv => whnf)
     | (refine LdN.own 1 rfl rfl ?_; conv => whnf))
   | (show Sto _ _ _ _; first
     | (refine Sto.lit 0 rfl rfl rfl ?_; conv => whnf)
     | (refine Sto.lit 1 rfl rfl rfl ?_; conv => whnf))
  all_goals first
    | (rw [f2 (by assumption)]; exact RetN.all (Res.err _ _))
    | (rw [f3 (by assumption) (by omega)]; exact RetN.all (Res.err _ _))
    | skip
  obtain ⟨rfl, g1⟩ := hok1 (by assumption)
  have k1 : okR n1 l1 m1 := by assumption
  have z1 := okR.sz k1
  have y1 : Sz 1073741824 (ratOf n1 l1 m1) := z1.mono (by decide)
  obtain ⟨P, hP⟩ : ∃ P : Nat, P = p.toNat := ⟨_, rfl⟩
  have e := f1.out P (by omega) (by omega) k1
  have y3 : Sz 1073741824 (gridQ (ratOf n1 l1 m1) P up) := (Sz.grid z1 P up).mono (by omega)
  rw [e]
  obtain rfl : p = P := by omega
  repeat' first
   | (show CallN _ _ _ _ _ _; first
     | (refine CallN.fn rfl (FGrid_ct _ (by (iterate 30 (try first | assumption | refine Tb.mono ?_ (by assumption))); first | done | assumption) _ _ _ P up (by assumption) y1 (by omega)) (fun v h' hl hr => ?_); obtain ⟨e1, e2, rfl, hq'⟩ := hr; conv => whnf)
     | (refine CallN.fn rfl (Give_ct _ _ _ _ (by assumption) y3) (fun v h' hl hr => ?_); obtain ⟨e1, e2, rfl, hq''⟩ := hr; conv => whnf))
   | ((first | refine opsI.step ?_ | refine codeI.step ?_); conv => whnf)
   | (show LdN _ _ _ _ _; first
     | (refine LdN.own 1 rfl rfl ?_; conv => whnf))
   | (show Sto _ _ _ _; first
     | (refine Sto.lit 1 rfl rfl rfl ?_; conv => whnf))
  exact RetN.all ⟨_, _, rfl, (by assumption)⟩
theorem NDown_ct (h : Heap) (tb : Tb h) (n1 : Bool) (a1 b1 : Sl) (l1 m1 : List Nat) (hv1 : IsVal h a1 b1 l1 m1) (p : Int) :
    Fn0 T F.number_Down [.agg #[.bool n1, a1.val, b1.val], .int .i64 p] h fun v h' => Res h' v (specGrid false n1 l1 m1 p) := by
  refine fn0_of_codeI ok D.number_Down rfl ?_
  conv => whnf
  repeat ((first | refine opsI.step ?_ | refine codeI.step ?_); conv => whnf)
  repeat' first
   | (show CallN _ _ _ _ _ _; first
     | (refine CallN.fn rfl (round_ct _ (by assumption) _ _ _ l1 m1 (by assumption) p false) (fun v h' hl hr => ?_); obtain ⟨e1, e2, rfl, hq'⟩ := hr; conv => whnf))
   | ((first | refine opsI.step ?_ | refine codeI.step ?_); conv => whnf)
   | (intro (_ : Nat); conv => whnf)
   | (show LdN _ _ _ _ _; first
     | (refine LdN.own 0 rfl rfl ?_; conv => whnf)
     | (refine LdN.own 1 rfl rfl ?_; conv => whnf))
   | (show Sto _ _ _ _; first
     | (refine Sto.lit 0 rfl rfl rfl ?_; conv => whnf))
  exact RetN.all ⟨_, _, rfl, (by assumption)⟩
theorem NUp_ct (h : Heap) (tb : Tb h) (n1 : Bool) (a1 b1 : Sl) (l1 m1 : List Nat) (hv1 : IsVal h a1 b1 l1 m1) (p : Int) :
    Fn0 T F.number_Up [.agg #[.bool n1, a1.val, b1.val], .int .i64 p] h fun v h' => Res h' v (specGrid true n1 l1 m1 p) := by
  refine fn0_of_codeI ok D.number_Up rfl ?_
  conv => whnf
  repeat ((first | refine opsI.step ?_ | refine codeI.step ?_); conv => whnf)
  repeat' first
   | (show CallN _ _ _ _ _ _; first
     | (refine CallN.fn rfl (round_ct _ (by assumption) _ _ _ l1 m1 (by assumption) p true) (fun v h' hl hr => ?_); obtain ⟨e1, e2, rfl, hq'⟩ := hr; conv => whnf))
   | ((first | refine opsI.step ?_ | refine codeI.step ?_); conv => whnf)
   | (intro (_ : Nat); conv => whnf)
   | (show LdN _ _ _ _ _; first
     | (refine LdN.own 0 rfl rfl ?_; conv => whnf)
     | (refine LdN.own 1 rfl rfl ?_; conv => whnf))
   | (show Sto _ _ _ _; first
     | (refine Sto.lit 0 rfl rfl rfl ?_; conv => whnf))
  exact RetN.all ⟨_, _, rfl, (by assumption)⟩

/-- what a comparison hands out -/
def specCmp (n1 : Bool) (l1 m1 : List Nat) (n2 : Bool) (l2 m2 : List Nat) : Int × Int :=
  if okR n1 l1 m1 ∧ okR n2 l2 m2 then (cmpQ (ratOf n1 l1 m1) (ratOf n2 l2 m2), 0) else (0, 1)
set_option maxRecDepth 20000 in
set_option maxHeartbeats 1000000 in
theorem NCompare_ct (h : Heap) (tb : Tb h) (n1 : Bool) (a1 b1 : Sl) (l1 m1 : List Nat) (n2 : Bool) (a2 b2 : Sl) (l2 m2 : List Nat) (hv1 : IsVal h a1 b1 l1 m1) (hv2 : IsVal h a2 b2 l2 m2) :
    Fn0 T F.number_Compare [.agg #[.bool n1, a1.val, b1.val], .agg #[.bool n2, a2.val, b2.val]] h fun v _ => v = .tuple #[.int .i64 (specCmp n1 l1 m1 n2 l2 m2).1, .int .i64 (specCmp n1 l1 m1 n2 l2 m2).2] := by
  have f1 : okR n1 l1 m1 → okR n2 l2 m2 → specCmp n1 l1 m1 n2 l2 m2 = (cmpQ (ratOf n1 l1 m1) (ratOf n2 l2 m2), 0) := fun x y => if_pos ⟨x, y⟩
  have f2 : ¬ okR n1 l1 m1 → specCmp n1 l1 m1 n2 l2 m2 = (0, 1) := fun x => if_neg fun y => x y.1
  have f3 : ¬ okR n2 l2 m2 → specCmp n1 l1 m1 n2 l2 m2 = (0, 1) := fun x => if_neg fun y => x y.2
  refine fn0_of_codeI ok D.number_Compare rfl ?_
  conv => whnf
  repeat ((first | refine opsI.step ?_ | refine codeI.step ?_); conv => whnf)
  repeat' first
   | (show CallN _ _ _ _ _ _; first
     | (refine CallN.fn rfl (Read_ct _ (by (iterate 30 (try first | assumption | refine Tb.mono ?_ (by assumption))); first | done | assumption) _ _ _ l1 m1 (by (iterate 30 (try first | assumption | refine IsVal.mono ?_ (by assumption))); first | done | assumption)) (fun v h' hle1 hr => ?_); obtain ⟨s1, c1, d1, rfl, hok1⟩ := hr; conv => whnf)
     | (refine CallN.fn rfl (Read_ct _ (by (iterate 30 (try first | assumption | refine Tb.mono ?_ (by assumption))); first | done | assumption) _ _ _ l2 m2 (by (iterate 30 (try first | assumption | refine IsVal.mono ?_ (by assumption))); first | done | assumption)) (fun v h' hle2 hr => ?_); obtain ⟨s2, c2, d2, rfl, hok2⟩ := hr; conv => whnf))
   | ((first | refine opsI.step ?_ | refine codeI.step ?_); conv => whnf)
   | (intro (_ : Nat); conv => whnf)
   | (show cnd _ _ _; first
     | (refine cnd_not ?_)
     | (refine cnd_dec (fun _ => ?_) (fun _ => ?_) <;> first | (exfalso; omega) | (conv => whnf)))
   | (show LdN _ _ _ _ _; first
     | (refine LdN.own 0 rfl rfl ?_; conv => whnf)
     | (refine LdN.own 1 rfl rfl ?_; conv => whnf))
   | (show Sto _ _ _ _; first
     | (refine Sto.lit 0 rfl rfl rfl ?_; conv => whnf))
  all_goals first
    | (rw [f2 (by assumption)]; exact RetN.all rfl)
    | (rw [f3 (by assumption)]; exact RetN.all rfl)
    | skip
  obtain ⟨rfl, g1⟩ := hok1 (by assumption)
  obtain ⟨rfl, g2⟩ := hok2 (by assumption)
  have k1 : okR n1 l1 m1 := by assumption
  have k2 : okR n2 l2 m2 := by assumption
  have y1 : Sz 1073741824 (ratOf n1 l1 m1) := (okR.sz k1).mono (by decide)
  have y2 : Sz 1073741824 (ratOf n2 l2 m2) := (okR.sz k2).mono (by decide)
  rw [f1 k1 k2]
  repeat' first
   | (show CallN _ _ _ _ _ _; first
     | (refine CallN.fn rfl (FCmp_ct _ _ _ _ _ _ _ (by (iterate 30 (try first | assumption | refine IsFr.mono ?_ (by assumption))); first | done | assumption) (by assumption) y1 y2) (fun v h' hl hr => ?_); obtain rfl := hr; conv => whnf))
   | ((first | refine opsI.step ?_ | refine codeI.step ?_); conv => whnf)
  exact RetN.all rfl

/-- what a power hands out -/
def specPow (n1 : Bool) (l1 m1 : List Nat) (n : Int) : Rat × Int :=
  if okR n1 l1 m1 then (if n < -32 ∨ 32 < n then (0, 2) else if n < 0 ∧ nu (ratOf n1 l1 m1) = 0 then (0, 10) else outR (powQ (ratOf n1 l1 m1) n)) else (0, 1)
theorem ln_pow {b : Nat} (hb : 2 ≤ b) (a n : Nat) : ln b (a ^ n) ≤ n * ln b a + 1 := by
  rw [ln_le_iff hb]
  have h1 : a ≤ b ^ ln b a := Nat.le_of_lt ((ln_le_iff hb).1 (Nat.le_refl _))
  have h2 : a ^ n ≤ b ^ (ln b a * n) := by rw [Nat.pow_mul]; exact Nat.pow_le_pow_left h1 n
  rw [Nat.mul_comm n]
  exact Nat.lt_of_le_of_lt h2 (Nat.pow_lt_pow_right (by omega) (by omega))
theorem Sz.pow {q : Rat} (s : Sz 64 q) {n : Nat} (hn : n ≤ 32) : Sz 4096 (q ^ n) := by
  have h1 := ln_pow two_le_B (nu q) n
  have h2 := ln_pow two_le_B q.den n
  have a1 := s.num
  have a2 := s.den
  have b1 : n * ln 4294967296 (nu q) ≤ 32 * 64 := Nat.mul_le_mul hn a1
  have b2 : n * ln 4294967296 q.den ≤ 32 * 64 := Nat.mul_le_mul hn a2
  refine ⟨?_, ?_⟩
  · rw [nu_pow]; omega
  · rw [Rat.den_pow]; omega
theorem fits_int (n : Int) (h1 : -9223372036854775808 ≤ n) (h2 : n ≤ 9223372036854775807) : fits (n : Rat) := by
  have a := (ln_le_iff (k := 2) two_le_B).2 (show nu (n : Rat) < 4294967296 ^ 2 by rw [nu_int]; omega)
  refine ⟨by omega, ?_⟩
  rw [den_int, ln_one _ two_le_B]; decide
set_option maxRecDepth 20000 in
theorem NFromInt_ct (h : Heap) (n : Int) (h1 : -9223372036854775808 ≤ n) (h2 : n ≤ 9223372036854775807) :
    Fn0 T F.number_FromInt [.int .i64 n] h fun v h' => ∃ a b : Sl, v = .agg #[.bool (sg (n : Rat)), a.val, b.val] ∧ IsRat h' a b (n : Rat) := by
  have hf := fits_int n h1 h2
  have e : outR (n : Rat) = ((n : Rat), 0) := if_pos hf
  have y : Sz 1073741824 (n : Rat) := ⟨Nat.le_trans hf.1 (by decide), Nat.le_trans hf.2 (by decide)⟩
  obtain ⟨q, hq⟩ : ∃ q, q = (n : Rat) := ⟨_, rfl⟩
  rw [← hq] at e y
  rw [← hq]
  refine fn0_of_codeI ok D.number_FromInt rfl ?_
  conv => whnf
  repeat ((first | refine opsI.step ?_ | refine codeI.step ?_); conv => whnf)
  repeat' first
   | (show CallN _ _ _ _ _ _; first
     | (refine CallN.fn rfl (FInt_ct _ n h1 h2) (fun v h' hl hr => ?_); rw [← hq] at hr; obtain ⟨e1, e2, rfl, hq'⟩ := hr; conv => whnf)
     | (refine CallN.fn rfl (Give_ct _ _ _ q (by assumption) y) (fun v h' hl hr => ?_); rw [e] at hr; obtain ⟨e1, e2, rfl, hq''⟩ := hr; conv => whnf))
   | ((first | refine opsI.step ?_ | refine codeI.step ?_); conv => whnf)
   | (intro (_ : Nat); conv => whnf)
   | (show LdN _ _ _ _ _; first
     | (refine LdN.own 0 rfl rfl ?_; conv => whnf)
     | (refine LdN.own 1 rfl rfl ?_; conv => whnf))
   | (show Sto _ _ _ _; first
     | (refine Sto.lit 0 rfl rfl rfl ?_; conv => whnf)
     | (refine Sto.lit 1 rfl rfl rfl ?_; conv => whnf))
  exact RetN.all ⟨_, _, rfl, (by assumption)⟩

/-- the bits of a number -/
def bitsQ (q : Rat) : Int := mm true (bl (nu q) : Nat) (bl q.den : Nat)
def specBits (n1 : Bool) (l1 m1 : List Nat) : Int × Int := if okR n1 l1 m1 then (bitsQ (ratOf n1 l1 m1), 0) else (0, 1)
end Go.Proofs.YtdemgbmndijkkaaGreatDoor
/- Contracts of the reference's functions on rational numbers, fourth part: comparison, whole parts, the grid, powers, bits. -/
namespace Go.Proofs.YtdemgbmndijkkaaGreatDoor
open Go Go.Vc Go.Dig

theorem WrapN.i64v {n : Int} {k : Int → Prop} (x : Int) (h : n = x) (h1 : -9223372036854775808 ≤ x) (h2 : x ≤ 9223372036854775807) (hk : k x) : WrapN .i64 n k := by
  subst h; exact WrapN.i64 h1 h2 hk
theorem lb_two_pow (p : Nat) : ln 65536 (2 ^ p) ≤ p + 1 := by
  rw [ln_le_iff (by decide)]
  refine Nat.lt_of_lt_of_le (Nat.pow_lt_pow_right (by decide) (Nat.lt_succ_self p)) (Nat.pow_le_pow_left (by decide) _)
theorem NatShl_i (h : Heap) (a : Sl) (m : Nat) (n : Int) (P : Nat) (hn : n = P) (ha : IsRef h a m) (la : ln 65536 m ≤ 17179869184) (hp : P ≤ 549755813888) :
    Fn0 T F.ref01_NatShl [a.val, .int .i64 n] h fun v h' => ∃ s : Sl, v = s.val ∧ IsRef h' s (m * 2 ^ P) := by
  subst hn; exact NatShl_ct h a m P ha la hp
set_option maxRecDepth 20000 in
theorem RCmp_ct (h : Heap) (a b c d : Sl) (q r : Rat) (hq : IsQ h a b q) (hr : IsQ h c d r) (hs : Sr 65536 q) (hs' : Sr 65536 r) :
    Fn0 T F.ref01_Cmp [.agg #[.bool (sg q), a.val, b.val], .agg #[.bool (sg r), c.val, d.val]] h fun v _ => v = .int .i64 (cmpQ q r) := by
  have y1 : Sr 1073741824 q := hs.mono (by decide)
  have y2 : Sr 1073741824 r := hs'.mono (by decide)
  have y3 : Sr 1099511627776 (q - r) := by rw [Rat.sub_eq_add_neg]; exact (sr_add hs (Sr.neg hs')).mono (by decide)
  have e := cmpQ_sub q r
  refine fn0_of_codeI ok D.ref01_Cmp rfl ?_
  conv => whnf
  repeat ((first | refine opsI.step ?_ | refine codeI.step ?_); conv => whnf)
  repeat' first
   | (show CallN _ _ _ _ _ _; first
     | (refine CallN.fn rfl (Diff_ct _ _ _ _ _ _ _ (by assumption) (by assumption) y1 y2) (fun v h' hl hr => ?_); obtain ⟨e1, e2, rfl, hq'⟩ := hr; conv => whnf)
     | (refine CallN.quiet rfl (Sgn_q _ _ _ _ (by assumption) y3) ?_; conv => whnf))
   | ((first | refine opsI.step ?_ | refine codeI.step ?_); conv => whnf)
   | (intro (_ : Nat); conv => whnf)
   | (show LdN _ _ _ _ _; first
     | (refine LdN.own 0 rfl rfl ?_; conv => whnf)
     | (refine LdN.own 1 rfl rfl ?_; conv => whnf))
  exact RetN.all (by rw [e])

theorem Sr.scale {k : Nat} {q : Rat} (s : Sr k q) (n : Int) : Sr (k + n.natAbs + 1) (scaleQ q n) := by
  have a1 := s.num
  have a2 := s.den
  have d0 := q.den_nz
  by_cases hn : n < 0
  · obtain ⟨P, hP⟩ : ∃ P : Nat, P = (-n).toNat := ⟨_, rfl⟩
    rw [scaleQ_dn q n P (by omega) hn]
    have p1 := ln_mul two_le_b q.den (2 ^ P)
    have p2 := lb_two_pow P
    have h := mkQ_le (sg q) (m := nu q) (n := q.den * 2 ^ P) (Nat.mul_ne_zero d0 (two_pow_ne P))
    exact ⟨Nat.le_trans (ln_mono two_le_b h.1) (by omega), Nat.le_trans (ln_mono two_le_b h.2) (by omega)⟩
  · obtain ⟨P, hP⟩ : ∃ P : Nat, P = n.toNat := ⟨_, rfl⟩
    rw [scaleQ_up q n P (by omega)]
    have p1 := ln_mul two_le_b (nu q) (2 ^ P)
    have p2 := lb_two_pow P
    have h := mkQ_le (sg q) (m := nu q * 2 ^ P) (n := q.den) d0
    exact ⟨Nat.le_trans (ln_mono two_le_b h.1) (by omega), Nat.le_trans (ln_mono two_le_b h.2) (by omega)⟩

theorem sr_bottom {k : Nat} {q : Rat} (s : Sr k q) (hk : 1 ≤ k) : Sr (k + 1) (gridQ q 0 false) := by
  have a1 := s.num
  have p1 := ln_mono two_le_b (Nat.div_le_self (nu q) q.den)
  have p3 := ln_add two_le_b (nu q / q.den) 1
  have p4 := ln_one 65536 two_le_b
  obtain ⟨c, hc, hc1⟩ : ∃ c, c = (if sg q = true ∧ nu q % q.den ≠ 0 then 1 else 0) ∧ c ≤ 1 := ⟨_, rfl, by split <;> omega⟩
  have h := mkQ_le (sg q) (m := nu q / q.den + c) (n := 1) (by decide)
  rw [bottom_eq, ← hc]
  have h1 : nu (mkQ (sg q) (nu q / q.den + c) 1) ≤ nu q / q.den + 1 := by omega
  exact ⟨Nat.le_trans (ln_mono two_le_b h1) (by omega), Nat.le_trans (ln_mono two_le_b h.2) (by omega)⟩
theorem sr_top {k : Nat} {q : Rat} (s : Sr k q) (hk : 1 ≤ k) : Sr (k + 1) (gridQ q 0 true) := by
  rw [grid_up]; exact Sr.neg (sr_bottom (Sr.neg s) hk)

end Go.Proofs.YtdemgbmndijkkaaGreatDoor
/- Contracts of the reference's layer: products, quotients, whole parts, the grid, powers; ints. -/
namespace Go.Proofs.YtdemgbmndijkkaaGreatDoor
open Go Go.Vc Go.Dig

theorem signQ_zero {q : Rat} : signQ q = 0 ↔ nu q = 0 := by
  unfold signQ
  split
  · simp_all
  · split <;> simp_all
theorem sr_mul {k l : Nat} {q r : Rat} (a : Sr k q) (b : Sr l r) : Sr (k + l) (q * r) := by
  have h := mul_le q r
  have p1 := ln_mul two_le_b (nu q) (nu r)
  have p3 := ln_mul two_le_b q.den r.den
  have a1 := a.num
  have a2 := a.den
  have b1 := b.num
  have b2 := b.den
  exact ⟨Nat.le_trans (ln_mono two_le_b h.1) (by omega), Nat.le_trans (ln_mono two_le_b h.2) (by omega)⟩
theorem sr_inv {k : Nat} {q : Rat} (s : Sr k q) (h : nu q ≠ 0) : Sr k q⁻¹ := ⟨by rw [nu_inv q h]; exact s.den, by rw [den_inv q h]; exact s.num⟩
theorem sr_pow {q : Rat} (s : Sr 128 q) {n : Nat} (hn : n ≤ 32) : Sr 8192 (q ^ n) := by
  have h1 := ln_pow two_le_b (nu q) n
  have h2 := ln_pow two_le_b q.den n
  have b1 : n * ln 65536 (nu q) ≤ 32 * 128 := Nat.mul_le_mul hn s.num
  have b2 : n * ln 65536 q.den ≤ 32 * 128 := Nat.mul_le_mul hn s.den
  have p := ln_one 65536 two_le_b
  refine ⟨?_, ?_⟩
  · rw [nu_pow]; omega
  · rw [Rat.den_pow]; omega

theorem Sr.grid {q : Rat} (s : Sr 128 q) {p : Nat} (hp : p ≤ 256) (up : Bool) : Sr 4294967296 (gridQ q p up) := by
  rw [grid_scaled]
  have y2 := s.scale (p : Int)
  have y3 : Sr (128 + (p : Int).natAbs + 1 + 1) (gridQ (scaleQ q p) 0 up) := by
    cases up
    · exact sr_bottom y2 (by omega)
    · exact sr_top y2 (by omega)
  exact (y3.scale (-(p : Int))).mono (by omega)

theorem one_div_q (q : Rat) : ((1 : Int) : Rat) / q = q⁻¹ := by rw [Rat.div_def, show ((1 : Int) : Rat) = 1 from rfl, Rat.one_mul]
theorem sr_powQ {q : Rat} (s : Sr 128 q) {n : Int} (h1 : -32 ≤ n) (h2 : n ≤ 32) (h0 : n < 0 → nu q ≠ 0) : Sr 4294967296 (powQ q n) := by
  unfold powQ
  split
  · rename_i hn; exact (sr_pow (sr_inv s (h0 hn)) (by omega)).mono (by decide)
  · exact (sr_pow s (by omega)).mono (by decide)

theorem NatOf_i (h : Heap) (n : Int) (N : Nat) (hn : n = N) (hN : N < 18446744073709551616) : Fn0 T F.ref01_NatOf [.int .u64 n] h fun v h' => ∃ s' : Sl, v = s'.val ∧ IsRef h' s' N := by
  subst hn; exact NatOf_ct h N hN
set_option maxRecDepth 20000 in
theorem Int_neg (h : Heap) (n : Int) (h1 : -9223372036854775808 ≤ n) (h2 : n < 0) :
    Fn0 T F.ref01_Int [.int .i64 n] h fun v h' => ∃ s t : Sl, v = .agg #[.bool (sg (n : Rat)), s.val, t.val] ∧ IsQ h' s t (n : Rat) := by
  obtain ⟨m, hm⟩ : ∃ m, m = n.natAbs := ⟨_, rfl⟩
  have e : (n : Rat) = mkQ true m 1 := by
    have := mkQ_self (n : Rat)
    rw [sg_int, nu_int, den_int, decide_eq_true h2, ← hm] at this
    exact this.symm
  have hnm : n = -(m : Int) := by omega
  have p1 : ln 65536 m ≤ 4 := (ln_le_iff two_le_b).2 (by omega)
  have p2 := ln_one 65536 two_le_b
  rw [e]
  clear e
  refine fn0_of_codeI ok D.ref01_Int rfl ?_
  conv => whnf
  repeat ((first | refine opsI.step ?_ | refine codeI.step ?_); conv => whnf)
  repeat' first
   | (show WrapN _ _ _; first
     | (refine WrapN.u64v (m - 1) (by omega) ?_; conv => whnf)
     | (refine WrapN.i64 (by omega) (by omega) ?_; conv => whnf)
     | (refine WrapN.u64 (by omega) (by omega) ?_; conv => whnf))
   | ((first | refine opsI.step ?_ | refine codeI.step ?_); conv => whnf)
   | (intro (_ : Nat); conv => whnf)
   | (show cnd _ _ _; first
     | (refine cnd_lt (fun _ => ?_) (fun _ => ?_) <;> first | (exfalso; omega) | (conv => whnf)))
  refine CallN.fn rfl (NatOf_i _ _ m (by omega) (by omega)) (fun v h' hl hr => ?_)
  obtain ⟨s', rfl, hs'⟩ := hr
  conv => whnf
  repeat ((first | refine opsI.step ?_ | refine codeI.step ?_); conv => whnf)
  refine CallN.fn rfl (NatOf_ct _ 1 (by omega)) (fun v h' hl hr => ?_)
  obtain ⟨t', rfl, ht'⟩ := hr
  conv => whnf
  repeat ((first | refine opsI.step ?_ | refine codeI.step ?_); conv => whnf)
  repeat' first
   | (show CallN _ _ _ _ _ _; first
     | (refine CallN.fn rfl (Make_ct _ _ _ _ m 1 (by (iterate 30 (try first | assumption | refine IsRef.mono ?_ (by assumption))); first | done | assumption) (by assumption) (by omega) (by omega)) (fun v h' hl hr => ?_); obtain ⟨a', b', rfl, hq'⟩ := hr; conv => whnf))
   | ((first | refine opsI.step ?_ | refine codeI.step ?_); conv => whnf)
   | (show LdN _ _ _ _ _; first
     | (refine LdN.own 0 rfl rfl ?_; conv => whnf))
   | (show Sto _ _ _ _; first
     | (refine Sto.lit 0 rfl rfl rfl ?_; conv => whnf))
  exact RetN.all ⟨_, _, rfl, (by assumption)⟩
theorem IntQ_ct (h : Heap) (n : Int) (h1 : -9223372036854775808 ≤ n) (h2 : n ≤ 9223372036854775807) :
    Fn0 T F.ref01_Int [.int .i64 n] h fun v h' => ∃ s t : Sl, v = .agg #[.bool (sg (n : Rat)), s.val, t.val] ∧ IsQ h' s t (n : Rat) := by
  by_cases hn : n < 0
  · exact Int_neg h n h1 hn
  · exact Int_ct h n (by omega) h2
end Go.Proofs.YtdemgbmndijkkaaGreatDoor
/- What the statements on products, quotients, whole parts, the grid, powers, canonical values, bits, comparisons and ints compute: true. -/
namespace Go.Proofs.YtdemgbmndijkkaaGreatDoor
open Go Go.Vc Go.Dig

theorem Rok.spec1 (op : Rat → Rat) (n1 : Bool) (l1 m1 : List Nat) : Rok (Proofs.YtdemgbmndijkkaaGreatDoor.spec1 op n1 l1 m1) := by
  unfold Proofs.YtdemgbmndijkkaaGreatDoor.spec1
  split
  · exact Rok.out _
  · exact Rok.err1 1
theorem Rok.specDiv (n1 : Bool) (l1 m1 : List Nat) (n2 : Bool) (l2 m2 : List Nat) : Rok (Proofs.YtdemgbmndijkkaaGreatDoor.specDiv n1 l1 m1 n2 l2 m2) := by
  unfold Proofs.YtdemgbmndijkkaaGreatDoor.specDiv
  split
  · split
    · exact Rok.err1 10
    · exact Rok.out _
  · exact Rok.err1 1
theorem Rok.specGrid (up : Bool) (n1 : Bool) (l1 m1 : List Nat) (p : Int) : Rok (Proofs.YtdemgbmndijkkaaGreatDoor.specGrid up n1 l1 m1 p) := by
  unfold Proofs.YtdemgbmndijkkaaGreatDoor.specGrid
  split
  · split
    · exact Rok.err1 2
    · exact Rok.out _
  · exact Rok.err1 1
theorem Rok.specPow (n1 : Bool) (l1 m1 : List Nat) (n : Int) : Rok (Proofs.YtdemgbmndijkkaaGreatDoor.specPow n1 l1 m1 n) := by
  unfold Proofs.YtdemgbmndijkkaaGreatDoor.specPow
  split
  · split
    · exact Rok.err1 2
    · split
      · exact Rok.err1 10
      · exact Rok.out _
  · exact Rok.err1 1
theorem Res.two {h : Heap} {v : Value} {q : Rat} {e : Int} (r : Res h v (q, e)) : ∃ a b : Sl, v = .tuple #[.agg #[.bool (sg q), a.val, b.val], .int .i64 e] ∧ IsRat h a b q := r
theorem okR.out {n : Bool} {l m : List Nat} (h : okR n l m) : outR (ratOf n l m) = (ratOf n l m, 0) := if_pos h.2.2
end Go.Proofs.YtdemgbmndijkkaaGreatDoor