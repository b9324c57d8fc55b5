/- Roots on a grid of numbers of either sign; what the statement on grid roots computes: true. -/
import Derived.Test.YteblflmnhegmjaaDoorRt4
set_option linter.unusedVariables false
set_option linter.unusedSimpArgs false
namespace Go.Proofs.YteblflmnhegmjaaDoor
open Go Go.Vc Go.Dig

set_option maxRecDepth 20000 in
set_option maxHeartbeats 1000000 in
theorem Below_ct (h : Heap) (a b : Sl) (q : Rat) (n p : Int) (N P : Nat) (hN : n = N) (hP : p = P) (hn2 : 2 ≤ N) (hn8 : N ≤ 8) (hp8 : P ≤ 256) (hq : IsQ h a b q) (hs : Sz 64 q) :
    Fn0 T F.ref01_RootBelow [.agg #[.bool (sg q), a.val, b.val], .int .i64 n, .int .i64 p] h fun v h' => ∃ s t : Sl, v = .agg #[.bool (sg (rootQ q N P false)), s.val, t.val] ∧ IsQ h' s t (rootQ q N P false) := by
  cases h0 : sg q with
  | false =>
    have := Below_nn h a b q n p N P hN hP hn2 hn8 hp8 hq hs h0
    rw [h0] at this
    exact this
  | true =>
    have hnz : nu q ≠ 0 := fun e => by rw [nu_eq_zero.1 e, sg_zero] at h0; cases h0
    have h1 : sg (-q) = false := by rw [sg_neg, h0]; rfl
    have e := rootQ_neg (N := N) (p := P) (up := false) h0
    have hneg := IsQ.neg hq
    have hsn : Sz 64 (-q) := Sz.neg hs
    have y1 : Sr 1099511627776 q := (Sr.of hs).mono (by decide)
    have c0 := Opp_q h a b q hq y1
    have c1 := fun (h : Heap) (a b : Sl) (w : IsQ h a b (-q)) => Above_nn h a b (-q) n p N P hN hP hn2 hn8 hp8 w hsn h1
    have y2 : Sr 1099511627776 (rootQ (-q) N P true) := (sr_rootQ hsn (by omega) hn8 hp8 _).mono (by decide)
    have e' : rootQ q N P false = -rootQ (-q) N P true := e
    rw [e']
    obtain ⟨y, hy⟩ : ∃ y, y = rootQ (-q) N P true := ⟨_, rfl⟩
    rw [← hy] at c1 y2
    rw [← hy]
    rw [h0, h1] at c0
    rw [h1] at c1
    clear e e' hy
    refine fn0_of_codeI ok D.ref01_RootBelow rfl ?_
    conv => whnf
    repeat ((first | refine opsI.step ?_ | refine codeI.step ?_); conv => whnf)
    repeat' first
     | (show CallN _ _ _ _ _ _; first
       | (refine CallN.quiet rfl c0 ?_; conv => whnf)
       | (refine CallN.fn rfl (c1 _ _ _ (by assumption)) (fun v h' hl hr => ?_); obtain ⟨e1, e2, rfl, hq'⟩ := hr; have hqn := IsQ.neg hq'; conv => whnf)
       | (refine CallN.quiet rfl (Opp_q _ _ _ y (by assumption) y2) ?_; conv => whnf))
     | ((first | refine opsI.step ?_ | refine codeI.step ?_); conv => whnf)
     | (intro (_ : Nat); conv => whnf)
     | (show LdN _ _ _ _ _; first
       | (refine LdN.own 0 rfl rfl ?_; conv => whnf)
       | (refine LdN.own 1 rfl rfl ?_; conv => whnf))
     | (show Ld _ _ _ _; first
       | (refine Ld.own 1 rfl rfl ?_; conv => whnf))
     | (show Sto _ _ _ _; first
       | (refine Sto.lit 0 rfl rfl rfl ?_; conv => whnf))
    exact RetN.all ⟨_, _, rfl, (by assumption)⟩

set_option maxRecDepth 20000 in
set_option maxHeartbeats 1000000 in
theorem Above_ct (h : Heap) (a b : Sl) (q : Rat) (n p : Int) (N P : Nat) (hN : n = N) (hP : p = P) (hn2 : 2 ≤ N) (hn8 : N ≤ 8) (hp8 : P ≤ 256) (hq : IsQ h a b q) (hs : Sz 64 q) :
    Fn0 T F.ref01_RootAbove [.agg #[.bool (sg q), a.val, b.val], .int .i64 n, .int .i64 p] h fun v h' => ∃ s t : Sl, v = .agg #[.bool (sg (rootQ q N P true)), s.val, t.val] ∧ IsQ h' s t (rootQ q N P true) := by
  cases h0 : sg q with
  | false =>
    have := Above_nn h a b q n p N P hN hP hn2 hn8 hp8 hq hs h0
    rw [h0] at this
    exact this
  | true =>
    have hnz : nu q ≠ 0 := fun e => by rw [nu_eq_zero.1 e, sg_zero] at h0; cases h0
    have h1 : sg (-q) = false := by rw [sg_neg, h0]; rfl
    have e := rootQ_neg (N := N) (p := P) (up := true) h0
    have hneg := IsQ.neg hq
    have hsn : Sz 64 (-q) := Sz.neg hs
    have y1 : Sr 1099511627776 q := (Sr.of hs).mono (by decide)
    have c0 := Opp_q h a b q hq y1
    have c1 := fun (h : Heap) (a b : Sl) (w : IsQ h a b (-q)) => Below_nn h a b (-q) n p N P hN hP hn2 hn8 hp8 w hsn h1
    have y2 : Sr 1099511627776 (rootQ (-q) N P false) := (sr_rootQ hsn (by omega) hn8 hp8 _).mono (by decide)
    have e' : rootQ q N P true = -rootQ (-q) N P false := e
    rw [e']
    obtain ⟨y, hy⟩ : ∃ y, y = rootQ (-q) N P false := ⟨_, rfl⟩
    rw [← hy] at c1 y2
    rw [← hy]
    rw [h0, h1] at c0
    rw [h1] at c1
    clear e e' hy
    refine fn0_of_codeI ok D.ref01_RootAbove rfl ?_
    conv => whnf
    repeat ((first | refine opsI.step ?_ | refine codeI.step ?_); conv => whnf)
    repeat' first
     | (show CallN _ _ _ _ _ _; first
       | (refine CallN.quiet rfl c0 ?_; conv => whnf)
       | (refine CallN.fn rfl (c1 _ _ _ (by assumption)) (fun v h' hl hr => ?_); obtain ⟨e1, e2, rfl, hq'⟩ := hr; have hqn := IsQ.neg hq'; conv => whnf)
       | (refine CallN.quiet rfl (Opp_q _ _ _ y (by assumption) y2) ?_; conv => whnf))
     | ((first | refine opsI.step ?_ | refine codeI.step ?_); conv => whnf)
     | (intro (_ : Nat); conv => whnf)
     | (show LdN _ _ _ _ _; first
       | (refine LdN.own 0 rfl rfl ?_; conv => whnf)
       | (refine LdN.own 1 rfl rfl ?_; conv => whnf))
     | (show Ld _ _ _ _; first
       | (refine Ld.own 1 rfl rfl ?_; conv => whnf))
     | (show Sto _ _ _ _; first
       | (refine Sto.lit 0 rfl rfl rfl ?_; conv => whnf))
    exact RetN.all ⟨_, _, rfl, (by assumption)⟩

theorem signQ_lt {q : Rat} : signQ q < 0 ↔ sg q = true := by
  unfold signQ
  by_cases h : nu q = 0
  · rw [if_pos h, nu_eq_zero.1 h, sg_zero]; simp
  · rw [if_neg h]
    cases sg q <;> simp

set_option maxRecDepth 20000 in
set_option maxHeartbeats 1000000 in
theorem GridRoot_ct (h : Heap) (n1 : Bool) (a1 b1 : Sl) (l1 m1 : List Nat) (hv1 : IsVal h a1 b1 l1 m1) (n p : Int) (lo : -9223372036854775808 ≤ n) (hi : n ≤ 9223372036854775807) (lo' : -9223372036854775808 ≤ p) (hi' : p ≤ 9223372036854775807) (up : Bool) :
    Fn0 T F.ref01_GridRoot [.agg #[.bool n1, a1.val, b1.val], .int .i64 n, .int .i64 p, .bool up] h fun v h' => Res h' v (specGR up n1 l1 m1 n p) := by
  have f2 : ¬ okR n1 l1 m1 → specGR up n1 l1 m1 n p = (0, 1) := fun x => if_neg x
  have f3 : okR n1 l1 m1 → (n < 2 ∨ 8 < n ∨ p < 0 ∨ 256 < p) → specGR up n1 l1 m1 n p = (0, 2) := fun x y => by unfold specGR; rw [if_pos x, if_pos y]
  have f4 : okR n1 l1 m1 → ¬ (n < 2 ∨ 8 < n ∨ p < 0 ∨ 256 < p) → specGR up n1 l1 m1 n p = if sg (ratOf n1 l1 m1) = true ∧ n.toNat % 2 = 0 then (0, 5) else outR (rootQ (ratOf n1 l1 m1) n.toNat p.toNat up) := fun x y => by unfold specGR; rw [if_pos x, if_neg y]
  refine fn0_of_codeI ok D.ref01_GridRoot rfl ?_
  conv => whnf
  repeat ((first | refine opsI.step ?_ | refine codeI.step ?_); conv => whnf)
  repeat' first
   | (show CallN _ _ _ _ _ _; first
     | (refine CallN.fn rfl (Large_ct _ _ _ _ l1 m1 (by assumption)) (fun v h' hl hr => ?_); obtain rfl := hr; conv => whnf))
   | ((first | refine opsI.step ?_ | refine codeI.step ?_); conv => whnf)
   | (intro (_ : Nat); conv => whnf)
   | (show cnd _ _ _; first
     | (refine cnd_lt (fun _ => ?_) (fun _ => ?_) <;> first | (exfalso; omega) | (conv => whnf))
     | (refine cnd_not ?_)
     | (refine cnd_dec (fun _ => ?_) (fun _ => ?_) <;> first | (exfalso; omega) | (conv => whnf)))
   | (show LdN _ _ _ _ _; first
     | (refine LdN.own 0 rfl rfl ?_; conv => whnf)
     | (refine LdN.own 1 rfl rfl ?_; conv => whnf))
   | (show Sto _ _ _ _; first
     | (refine Sto.lit 0 rfl rfl rfl ?_; conv => whnf))
  all_goals first
    | (rw [f2 (by assumption)]; exact RetN.all (Res.err _ _))
    | (rw [f3 (by assumption) (by omega)]; exact RetN.all (Res.err _ _))
    | skip
  have k1 : okR n1 l1 m1 := by assumption
  have z1 := okR.sz k1
  obtain ⟨N, hN⟩ : ∃ N : Nat, n = N := ⟨n.toNat, by omega⟩
  obtain ⟨P, hP⟩ : ∃ P : Nat, p = P := ⟨p.toNat, by omega⟩
  rw [f4 k1 (by omega), show n.toNat = N by omega, show p.toNat = P by omega]
  clear f2 f3 f4
  obtain ⟨q, eqq⟩ : ∃ q, q = ratOf n1 l1 m1 := ⟨_, rfl⟩
  rw [← eqq] at z1
  rw [← eqq]
  have hn2 : 2 ≤ N := by omega
  have hn8 : N ≤ 8 := by omega
  have hp8 : P ≤ 256 := by omega
  have y0 : Sr 1099511627776 q := (Sr.of z1).mono (by decide)
  have y1 : ∀ u, Sr 4294967296 (rootQ q N P u) := fun u => (sr_rootQ z1 (by omega) hn8 hp8 u).mono (by decide)
  have c1 := fun (h : Heap) (a b : Sl) (w : IsQ h a b q) => Below_ct h a b q n p N P hN hP hn2 hn8 hp8 w z1
  have c2 := fun (h : Heap) (a b : Sl) (w : IsQ h a b q) => Above_ct h a b q n p N P hN hP hn2 hn8 hp8 w z1
  have E1 : N % 2 = 0 → signQ q < 0 → (if sg q = true ∧ N % 2 = 0 then ((0, 5) : Rat × Int) else outR (rootQ q N P up)) = (0, 5) := fun a b => if_pos ⟨signQ_lt.1 b, a⟩
  have E2 : ¬ (N % 2 = 0 ∧ signQ q < 0) → (if sg q = true ∧ N % 2 = 0 then ((0, 5) : Rat × Int) else outR (rootQ q N P up)) = outR (rootQ q N P up) := fun a => if_neg fun hh => a ⟨hh.2, signQ_lt.2 hh.1⟩
  obtain ⟨V, hV⟩ : ∃ V, V = (if sg q = true ∧ N % 2 = 0 then ((0, 5) : Rat × Int) else outR (rootQ q N P up)) := ⟨_, rfl⟩
  rw [← hV] at E1 E2
  rw [← hV]
  clear hV
  obtain ⟨w1, hw1⟩ : ∃ w, w = rootQ q N P false := ⟨_, rfl⟩
  obtain ⟨w2, hw2⟩ : ∃ w, w = rootQ q N P true := ⟨_, rfl⟩
  have y2 := y1 false
  have y3 := y1 true
  rw [← hw1] at c1 y2
  rw [← hw2] at c2 y3
  have E3 : ¬ (N % 2 = 0 ∧ signQ q < 0) → up = false → V = outR w1 := fun a b => by rw [E2 a, b, hw1]
  have E4 : ¬ (N % 2 = 0 ∧ signQ q < 0) → up = true → V = outR w2 := fun a b => by rw [E2 a, b, hw2]
  clear E2 hw1 hw2 y1
  obtain ⟨sq, hsq⟩ : ∃ s, s = signQ q := ⟨_, rfl⟩
  rw [← hsq] at E1 E3 E4
  repeat' first
   | (show RemN _ _ _; first
     | (refine RemN.nn (by omega) (by omega) ?_; conv => whnf))
   | (show CallN _ _ _ _ _ _; first
     | (refine CallN.fn rfl (QOf_ct _ _ _ _ l1 m1 (by (iterate 30 (try first | assumption | refine IsVal.mono ?_ (by assumption))); first | done | assumption)) (fun v h' hl hx => ?_); rw [← eqq] at hx; obtain ⟨p1, p2, rfl, hp⟩ := hx; conv => whnf)
     | (refine CallN.quiet rfl (Sgn_q _ _ _ q (by assumption) y0) ?_; rw [← hsq]; conv => whnf)
     | (refine CallN.fn rfl (c1 _ _ _ (by assumption)) (fun v h' hl hr => ?_); obtain ⟨e1, e2, rfl, hq'⟩ := hr; conv => whnf)
     | (refine CallN.fn rfl (c2 _ _ _ (by assumption)) (fun v h' hl hr => ?_); obtain ⟨e1, e2, rfl, hq'⟩ := hr; conv => whnf)
     | (refine CallN.fn rfl (Done_ct _ _ _ w1 (by assumption) y2) (fun v h' hl hr => ?_); obtain ⟨e1, e2, rfl, hq'⟩ := hr; conv => whnf)
     | (refine CallN.fn rfl (Done_ct _ _ _ w2 (by assumption) y3) (fun v h' hl hr => ?_); obtain ⟨e1, e2, rfl, hq'⟩ := hr; conv => whnf))
   | ((first | refine opsI.step ?_ | refine codeI.step ?_); conv => whnf)
   | (intro (_ : Nat); conv => whnf)
   | (show cnd _ _ _; first
     | (refine cnd_lt (fun _ => ?_) (fun _ => ?_) <;> first | (exfalso; omega) | (conv => whnf))
     | (refine cnd_eq (fun _ => ?_) (fun _ => ?_) <;> first | (exfalso; omega) | (conv => whnf))
     | (refine cnd_bool (fun hb => ?_) (fun hb => ?_) <;> (first | cases hb | subst hb) <;> (conv => whnf)))
   | (show LdN _ _ _ _ _; first
     | (refine LdN.own 0 rfl rfl ?_; conv => whnf)
     | (refine LdN.own 1 rfl rfl ?_; conv => whnf))
   | (show Sto _ _ _ _; first
     | (refine Sto.lit 0 rfl rfl rfl ?_; conv => whnf)
     | (refine Sto.lit 1 rfl rfl rfl ?_; conv => whnf))
  all_goals first
    | (rw [E1 (by omega) (by omega)]; exact RetN.all (Res.err _ _))
    | (rw [E3 (by omega) (by first | assumption | rfl)]; exact RetN.all ⟨_, _, rfl, (by assumption)⟩)
    | (rw [E4 (by omega) (by first | assumption | rfl)]; exact RetN.all ⟨_, _, rfl, (by assumption)⟩)
theorem Rok.specGR (up : Bool) (n1 : Bool) (l1 m1 : List Nat) (n p : Int) : Rok (Proofs.YteblflmnhegmjaaDoor.specGR up n1 l1 m1 n p) := by
  unfold Proofs.YteblflmnhegmjaaDoor.specGR
  split
  · split
    · exact Rok.err1 2
    · split
      · exact Rok.err1 5
      · exact Rok.out _
  · exact Rok.err1 1

set_option maxRecDepth 20000 in
set_option maxHeartbeats 1000000 in
theorem GridRoots_law (h : Heap) (tb : Tb h) (n1 : Bool) (a1 b1 : Sl) (l1 m1 : List Nat) (hv1 : IsVal h a1 b1 l1 m1) (n : Int) (lo : -9223372036854775808 ≤ n) (hi : n ≤ 9223372036854775807) (p : Int) (lo' : -9223372036854775808 ≤ p) (hi' : p ≤ 9223372036854775807) :
    Fn0 T F.law01_NumberGridRoots [.agg #[.bool n1, a1.val, b1.val], .int .i64 n, .int .i64 p] h fun v _ => v = .bool true := by
  have k1 := Rok.specGR false n1 l1 m1 n p
  have k2 := Rok.specGR true n1 l1 m1 n p
  obtain ⟨p1, hp1⟩ : ∃ q, q = specGR false n1 l1 m1 n p := ⟨_, rfl⟩
  obtain ⟨p2, hp2⟩ : ∃ q, q = specGR true n1 l1 m1 n p := ⟨_, rfl⟩
  rw [← hp1] at k1
  rw [← hp2] at k2
  refine fn0_of_codeI ok D.law01_NumberGridRoots rfl ?_
  conv => whnf
  repeat ((first | refine opsI.step ?_ | refine codeI.step ?_); conv => whnf)
  repeat' first
   | (show CallN _ _ _ _ _ _; first
     | (refine CallN.fn rfl (NRootDown_ct _ (by assumption) _ _ _ l1 m1 (by assumption) n p lo hi lo' hi') (fun v h' hl hr => ?_); rw [← hp1] at hr; obtain ⟨x, y, rfl, hq⟩ := hr; conv => whnf)
     | (refine CallN.fn rfl (NRootUp_ct _ (by (iterate 30 (try first | assumption | refine Tb.mono ?_ (by assumption))); first | done | assumption) _ _ _ l1 m1 (by (iterate 30 (try first | assumption | refine IsVal.mono ?_ (by assumption))); first | done | assumption) n p lo hi lo' hi') (fun v h' hl hr => ?_); rw [← hp2] at hr; obtain ⟨x, y, rfl, hq⟩ := hr; conv => whnf)
     | (refine CallN.fn rfl (GridRoot_ct _ _ _ _ l1 m1 (by (iterate 30 (try first | assumption | refine IsVal.mono ?_ (by assumption))); first | done | assumption) n p lo hi lo' hi' false) (fun v h' hl hr => ?_); rw [← hp1] at hr; obtain ⟨x, y, rfl, hq⟩ := hr; conv => whnf)
     | (refine CallN.fn rfl (GridRoot_ct _ _ _ _ l1 m1 (by (iterate 30 (try first | assumption | refine IsVal.mono ?_ (by assumption))); first | done | assumption) n p lo hi lo' hi' true) (fun v h' hl hr => ?_); rw [← hp2] at hr; obtain ⟨x, y, rfl, hq⟩ := hr; conv => whnf)
     | (refine CallN.fn rfl (Is_ct _ _ _ _ _ p1.1 p1.2 (by (iterate 30 (try first | assumption | refine IsRat.mono ?_ (by assumption))); first | done | assumption) (by (iterate 30 (try first | assumption | refine IsRat.mono ?_ (by assumption))); first | done | assumption) k1.sz k1.err) (fun v h' hl hr => ?_); obtain rfl := hr; conv => whnf)
     | (refine CallN.fn rfl (Is_ct _ _ _ _ _ p2.1 p2.2 (by (iterate 30 (try first | assumption | refine IsRat.mono ?_ (by assumption))); first | done | assumption) (by (iterate 30 (try first | assumption | refine IsRat.mono ?_ (by assumption))); first | done | assumption) k2.sz k2.err) (fun v h' hl hr => ?_); obtain rfl := hr; conv => whnf)
     | (refine CallN.fn rfl (awake_ct _ (by (iterate 30 (try first | assumption | refine Tb.mono ?_ (by assumption))); first | done | assumption)) (fun v h' hl hr => ?_); obtain rfl := hr; conv => whnf))
   | ((first | refine opsI.step ?_ | refine codeI.step ?_); conv => whnf)
   | (intro (_ : Nat); conv => whnf)
   | (show LdN _ _ _ _ _; first
     | (refine LdN.own 0 rfl rfl ?_; conv => whnf)
     | (refine LdN.own 1 rfl rfl ?_; conv => whnf)
     | (refine LdN.own 2 rfl rfl ?_; conv => whnf)
     | (refine LdN.own 3 rfl rfl ?_; conv => whnf))
   | (show Sto _ _ _ _; first
     | (refine Sto.lit 0 rfl rfl rfl ?_; conv => whnf))
  all_goals exact RetN.all rfl
end Go.Proofs.YteblflmnhegmjaaDoor
