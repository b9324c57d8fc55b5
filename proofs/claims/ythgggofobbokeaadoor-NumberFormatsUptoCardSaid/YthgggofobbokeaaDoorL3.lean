/- What the statements on sums, differences and middles compute: true. -/
import Derived.Test.YthgggofobbokeaaDoorL2
set_option linter.unusedVariables false
set_option linter.unusedSimpArgs false
namespace Go.Proofs.YthgggofobbokeaaDoor
open Go Go.Vc Go.Dig

/-- a result: small, and 0 beside an error -/
structure Rok (p : Rat × Int) : Prop where
  sz : Sz 1073741824 p.1
  err : p.2 ≠ 0 → p.1 = 0
theorem sz_zero (k : Nat) : Sz (k + 1) 0 := ⟨by rw [nu_zero, ln_zero]; omega, by rw [show (0 : Rat).den = 1 from rfl, ln_one _ two_le_B]; omega⟩
theorem Rok.err1 (e : Int) : Rok (0, e) := ⟨(sz_zero 0).mono (by decide), fun _ => rfl⟩
theorem Rok.out (q : Rat) : Rok (outR q) := by
  unfold outR
  split
  · rename_i h; exact ⟨⟨Nat.le_trans h.1 (by decide), Nat.le_trans h.2 (by decide)⟩, fun x => absurd rfl x⟩
  · exact Rok.err1 1
theorem Rok.spec2 (op : Rat → Rat → Rat) (n1 : Bool) (l1 m1 : List Nat) (n2 : Bool) (l2 m2 : List Nat) : Rok (Proofs.YthgggofobbokeaaDoor.spec2 op n1 l1 m1 n2 l2 m2) := by
  unfold Proofs.YthgggofobbokeaaDoor.spec2
  split
  · exact Rok.out _
  · exact Rok.err1 1

set_option maxRecDepth 20000 in
set_option maxHeartbeats 1000000 in
theorem Adds_law (h : Heap) (n1 : Bool) (a1 b1 : Sl) (l1 m1 : List Nat) (n2 : Bool) (a2 b2 : Sl) (l2 m2 : List Nat) (tb : Tb h) (hv1 : IsVal h a1 b1 l1 m1) (hv2 : IsVal h a2 b2 l2 m2) :
    Fn0 T F.law01_NumberAdds [.agg #[.bool n1, a1.val, b1.val], .agg #[.bool n2, a2.val, b2.val]] h fun v _ => v = .bool true := by
  have k1 := Rok.spec2 (· + ·) n1 l1 m1 n2 l2 m2
  have k2 := Rok.spec2 (· - ·) n1 l1 m1 n2 l2 m2
  obtain ⟨p, hp⟩ : ∃ p, p = spec2 (· + ·) n1 l1 m1 n2 l2 m2 := ⟨_, rfl⟩
  obtain ⟨p', hp'⟩ : ∃ p, p = spec2 (· - ·) n1 l1 m1 n2 l2 m2 := ⟨_, rfl⟩
  rw [← hp] at k1
  rw [← hp'] at k2
  refine fn0_of_codeI ok D.law01_NumberAdds rfl ?_
  conv => whnf
  repeat ((first | refine opsI.step ?_ | refine codeI.step ?_); conv => whnf)
  repeat' first
   | (show CallN _ _ _ _ _ _; first
     | (refine CallN.fn rfl (NAdd_ct _ _ _ _ l1 m1 _ _ _ l2 m2 (by assumption) (by assumption) (by assumption)) (fun v h' hl hr => ?_); rw [← hp] at hr; obtain ⟨x, y, rfl, hq⟩ := hr; conv => whnf)
     | (refine CallN.fn rfl (NSub_ct _ _ _ _ l1 m1 _ _ _ l2 m2 (by (iterate 30 (try first | assumption | refine Tb.mono ?_ (by assumption))); first | done | assumption) (by (iterate 30 (try first | assumption | refine IsVal.mono ?_ (by assumption))); first | done | assumption) (by (iterate 30 (try first | assumption | refine IsVal.mono ?_ (by assumption))); first | done | assumption)) (fun v h' hl hr => ?_); rw [← hp'] at hr; obtain ⟨x, y, rfl, hq⟩ := hr; conv => whnf)
     | (refine CallN.fn rfl (RAdd_ct _ _ _ _ l1 m1 _ _ _ l2 m2 (by (iterate 30 (try first | assumption | refine IsVal.mono ?_ (by assumption))); first | done | assumption) (by (iterate 30 (try first | assumption | refine IsVal.mono ?_ (by assumption))); first | done | assumption)) (fun v h' hl hr => ?_); rw [← hp] at hr; obtain ⟨x, y, rfl, hq⟩ := hr; conv => whnf)
     | (refine CallN.fn rfl (RSub_ct _ _ _ _ l1 m1 _ _ _ l2 m2 (by (iterate 30 (try first | assumption | refine IsVal.mono ?_ (by assumption))); first | done | assumption) (by (iterate 30 (try first | assumption | refine IsVal.mono ?_ (by assumption))); first | done | assumption)) (fun v h' hl hr => ?_); rw [← hp'] at hr; obtain ⟨x, y, rfl, hq⟩ := hr; conv => whnf)
     | (refine CallN.fn rfl (Is_ct _ _ _ _ _ p.1 p.2 (by (iterate 30 (try first | assumption | refine IsRat.mono ?_ (by assumption))); first | done | assumption) (by (iterate 30 (try first | assumption | refine IsRat.mono ?_ (by assumption))); first | done | assumption) k1.sz k1.err) (fun v h' hl hr => ?_); obtain rfl := hr; conv => whnf)
     | (refine CallN.fn rfl (Is_ct _ _ _ _ _ p'.1 p'.2 (by (iterate 30 (try first | assumption | refine IsRat.mono ?_ (by assumption))); first | done | assumption) (by (iterate 30 (try first | assumption | refine IsRat.mono ?_ (by assumption))); first | done | assumption) k2.sz k2.err) (fun v h' hl hr => ?_); obtain rfl := hr; conv => whnf)
     | (refine CallN.fn rfl (awake_ct _ (by (iterate 30 (try first | assumption | refine Tb.mono ?_ (by assumption))); first | done | assumption)) (fun v h' hl hr => ?_); obtain rfl := hr; conv => whnf))
   | ((first | refine opsI.step ?_ | refine codeI.step ?_); conv => whnf)
   | (intro (_ : Nat); conv => whnf)
   | (show LdN _ _ _ _ _; first
     | (refine LdN.own 0 rfl rfl ?_; conv => whnf)
     | (refine LdN.own 1 rfl rfl ?_; conv => whnf)
     | (refine LdN.own 2 rfl rfl ?_; conv => whnf)
     | (refine LdN.own 3 rfl rfl ?_; conv => whnf)
     | (refine LdN.own 4 rfl rfl ?_; conv => whnf))
   | (show Sto _ _ _ _; first
     | (refine Sto.lit 0 rfl rfl rfl ?_; conv => whnf))
  all_goals exact RetN.all rfl

set_option maxRecDepth 20000 in
set_option maxHeartbeats 1000000 in
theorem Middles_law (h : Heap) (n1 : Bool) (a1 b1 : Sl) (l1 m1 : List Nat) (n2 : Bool) (a2 b2 : Sl) (l2 m2 : List Nat) (tb : Tb h) (hv1 : IsVal h a1 b1 l1 m1) (hv2 : IsVal h a2 b2 l2 m2) :
    Fn0 T F.law01_NumberMiddles [.agg #[.bool n1, a1.val, b1.val], .agg #[.bool n2, a2.val, b2.val]] h fun v _ => v = .bool true := by
  have k1 := Rok.spec2 half n1 l1 m1 n2 l2 m2
  obtain ⟨p, hp⟩ : ∃ p, p = spec2 half n1 l1 m1 n2 l2 m2 := ⟨_, rfl⟩
  rw [← hp] at k1
  refine fn0_of_codeI ok D.law01_NumberMiddles rfl ?_
  conv => whnf
  repeat ((first | refine opsI.step ?_ | refine codeI.step ?_); conv => whnf)
  repeat' first
   | (show CallN _ _ _ _ _ _; first
     | (refine CallN.fn rfl (NMiddle_ct _ _ _ _ l1 m1 _ _ _ l2 m2 (by assumption) (by assumption) (by assumption)) (fun v h' hl hr => ?_); rw [← hp] at hr; obtain ⟨x, y, rfl, hq⟩ := hr; conv => whnf)
     | (refine CallN.fn rfl (RMiddle_ct _ _ _ _ l1 m1 _ _ _ l2 m2 (by (iterate 30 (try first | assumption | refine IsVal.mono ?_ (by assumption))); first | done | assumption) (by (iterate 30 (try first | assumption | refine IsVal.mono ?_ (by assumption))); first | done | assumption)) (fun v h' hl hr => ?_); rw [← hp] at hr; obtain ⟨x, y, rfl, hq⟩ := hr; conv => whnf)
     | (refine CallN.fn rfl (Is_ct _ _ _ _ _ p.1 p.2 (by (iterate 30 (try first | assumption | refine IsRat.mono ?_ (by assumption))); first | done | assumption) (by assumption) k1.sz k1.err) (fun v h' hl hr => ?_); obtain rfl := hr; conv => whnf)
     | (refine CallN.fn rfl (awake_ct _ (by (iterate 30 (try first | assumption | refine Tb.mono ?_ (by assumption))); first | done | assumption)) (fun v h' hl hr => ?_); obtain rfl := hr; conv => whnf))
   | ((first | refine opsI.step ?_ | refine codeI.step ?_); conv => whnf)
   | (intro (_ : Nat); conv => whnf)
   | (show LdN _ _ _ _ _; first
     | (refine LdN.own 0 rfl rfl ?_; conv => whnf)
     | (refine LdN.own 1 rfl rfl ?_; conv => whnf)
     | (refine LdN.own 2 rfl rfl ?_; conv => whnf))
   | (show Sto _ _ _ _; first
     | (refine Sto.lit 0 rfl rfl rfl ?_; conv => whnf))
  all_goals exact RetN.all rfl
end Go.Proofs.YthgggofobbokeaaDoor
