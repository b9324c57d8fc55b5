/- What the statement on comparisons computes: true. -/
import Derived.Test.YthgggofobbokeaaDoorL4
set_option linter.unusedVariables false
set_option linter.unusedSimpArgs false
namespace Go.Proofs.YthgggofobbokeaaDoor
open Go Go.Vc Go.Dig

set_option maxRecDepth 20000 in
set_option maxHeartbeats 1000000 in
theorem Compares_law (h : Heap) (tb : Tb h) (n1 : Bool) (a1 b1 : Sl) (l1 m1 : List Nat) (hv1 : IsVal h a1 b1 l1 m1) (n2 : Bool) (a2 b2 : Sl) (l2 m2 : List Nat) (hv2 : IsVal h a2 b2 l2 m2) :
    Fn0 T F.law01_NumberCompares [.agg #[.bool n1, a1.val, b1.val], .agg #[.bool n2, a2.val, b2.val]] h fun v _ => v = .bool true := by
  by_cases hk : okR n1 l1 m1
  by_cases hk2 : okR n2 l2 m2
  · have e : specCmp n1 l1 m1 n2 l2 m2 = (cmpQ (ratOf n1 l1 m1) (ratOf n2 l2 m2), 0) := if_pos ⟨hk, hk2⟩
    have s1 := ratOf_sr2 hk
    have s2 := ratOf_sr2 hk2
    obtain ⟨q, eqq⟩ : ∃ q, q = ratOf n1 l1 m1 := ⟨_, rfl⟩
    obtain ⟨r, eqr⟩ : ∃ r, r = ratOf n2 l2 m2 := ⟨_, rfl⟩
    rw [← eqq, ← eqr] at e
    rw [← eqq] at s1
    rw [← eqr] at s2
    obtain ⟨c, hc⟩ : ∃ c, c = cmpQ q r := ⟨_, rfl⟩
    rw [← hc] at e
    have y1 : Sr 65536 q := s1.mono (by decide)
    have y2 : Sr 65536 r := s2.mono (by decide)
    refine fn0_of_codeI ok D.law01_NumberCompares rfl ?_
    conv => whnf
    repeat ((first | refine opsI.step ?_ | refine codeI.step ?_); conv => whnf)
    repeat' first
     | (show CallN _ _ _ _ _ _; first
       | (refine CallN.fn rfl (NCompare_ct _ (by assumption) _ _ _ l1 m1 _ _ _ l2 m2 (by assumption) (by assumption)) (fun v h' hl hx => ?_); rw [e] at hx; obtain rfl := (show v = .tuple #[.int .i64 c, .int .i64 0] from hx); conv => whnf)
       | (refine CallN.fn rfl (Large_t _ _ _ _ l1 m1 hk (by (iterate 9 (try first | assumption | refine IsVal.mono ?_ (by assumption))); first | done | assumption)) (fun v h' hl hr => ?_); obtain rfl := hr; conv => whnf)
       | (refine CallN.fn rfl (Large_t _ _ _ _ l2 m2 hk2 (by (iterate 9 (try first | assumption | refine IsVal.mono ?_ (by assumption))); first | done | assumption)) (fun v h' hl hr => ?_); obtain rfl := hr; conv => whnf)
       | (refine CallN.fn rfl (QOf_ct _ _ _ _ l1 m1 (by (iterate 9 (try first | assumption | refine IsVal.mono ?_ (by assumption))); first | done | assumption)) (fun v h' hl hx => ?_); rw [← eqq] at hx; obtain ⟨p1, p2, rfl, hp⟩ := hx; conv => whnf)
       | (refine CallN.fn rfl (QOf_ct _ _ _ _ l2 m2 (by (iterate 9 (try first | assumption | refine IsVal.mono ?_ (by assumption))); first | done | assumption)) (fun v h' hl hx => ?_); rw [← eqr] at hx; obtain ⟨p1, p2, rfl, hp⟩ := hx; conv => whnf)
       | (refine CallN.fn rfl (RCmp_ct _ _ _ _ _ q r (by (iterate 9 (try first | assumption | refine IsQ.mono ?_ (by assumption))); first | done | assumption) (by assumption) y1 y2) (fun v h' hl hx => ?_); rw [← hc] at hx; obtain rfl := hx; conv => whnf)
       | (refine CallN.fn rfl (awake_ct _ (by (iterate 9 (try first | assumption | refine Tb.mono ?_ (by assumption))); first | done | assumption)) (fun v h' hl hr => ?_); obtain rfl := hr; conv => whnf))
     | ((first | refine opsI.step ?_ | refine codeI.step ?_); conv => whnf)
     | (refine ⟨fun _ => HasLe.of_le (by assumption), ?_⟩; conv => whnf)
     | (intro (_ : Nat); conv => whnf)
     | (show cnd _ _ _; first
       | (refine cnd_eq (fun _ => ?_) (fun _ => ?_) <;> first | (exfalso; omega) | (conv => whnf)))
     | (show LdN _ _ _ _ _; first
       | (refine LdN.own 0 rfl rfl ?_; conv => whnf)
       | (refine LdN.own 1 rfl rfl ?_; conv => whnf))
     | (show DrawN _ _ _ _ _ _; first
       | (refine DrawN.run (by decide +kernel) ?_; conv => whnf))
    all_goals exact RetN.all rfl
  · have e : specCmp n1 l1 m1 n2 l2 m2 = (0, 1) := if_neg fun hh => hk2 hh.2
    refine fn0_of_codeI ok D.law01_NumberCompares rfl ?_
    conv => whnf
    repeat ((first | refine opsI.step ?_ | refine codeI.step ?_); conv => whnf)
    repeat' first
     | (show CallN _ _ _ _ _ _; first
       | (refine CallN.fn rfl (NCompare_ct _ (by assumption) _ _ _ l1 m1 _ _ _ l2 m2 (by assumption) (by assumption)) (fun v h' hl hr => ?_); rw [e] at hr; obtain rfl := (show v = .tuple #[.int .i64 0, .int .i64 1] from hr); conv => whnf)
       | (refine CallN.fn rfl (Large_t _ _ _ _ l1 m1 hk (by (iterate 9 (try first | assumption | refine IsVal.mono ?_ (by assumption))); first | done | assumption)) (fun v h' hl hr => ?_); obtain rfl := hr; conv => whnf)
       | (refine CallN.fn rfl (Large_f _ _ _ _ l2 m2 hk2 (by (iterate 9 (try first | assumption | refine IsVal.mono ?_ (by assumption))); first | done | assumption)) (fun v h' hl hr => ?_); obtain rfl := hr; conv => whnf)
       | (refine CallN.fn rfl (awake_ct _ (by (iterate 9 (try first | assumption | refine Tb.mono ?_ (by assumption))); first | done | assumption)) (fun v h' hl hr => ?_); obtain rfl := hr; conv => whnf))
     | ((first | refine opsI.step ?_ | refine codeI.step ?_); conv => whnf)
     | (intro (_ : Nat); conv => whnf)
     | (show cnd _ _ _; first
       | (refine cnd_eq (fun _ => ?_) (fun _ => ?_) <;> first | (exfalso; omega) | (conv => whnf)))
     | (show LdN _ _ _ _ _; first
       | (refine LdN.own 0 rfl rfl ?_; conv => whnf)
       | (refine LdN.own 1 rfl rfl ?_; conv => whnf))
    all_goals exact RetN.all rfl
  · have e : specCmp n1 l1 m1 n2 l2 m2 = (0, 1) := if_neg fun hh => hk hh.1
    refine fn0_of_codeI ok D.law01_NumberCompares rfl ?_
    conv => whnf
    repeat ((first | refine opsI.step ?_ | refine codeI.step ?_); conv => whnf)
    repeat' first
     | (show CallN _ _ _ _ _ _; first
       | (refine CallN.fn rfl (NCompare_ct _ (by assumption) _ _ _ l1 m1 _ _ _ l2 m2 (by assumption) (by assumption)) (fun v h' hl hr => ?_); rw [e] at hr; obtain rfl := (show v = .tuple #[.int .i64 0, .int .i64 1] from hr); conv => whnf)
       | (refine CallN.fn rfl (Large_f _ _ _ _ l1 m1 hk (by (iterate 9 (try first | assumption | refine IsVal.mono ?_ (by assumption))); first | done | assumption)) (fun v h' hl hr => ?_); obtain rfl := hr; conv => whnf)
       | (refine CallN.fn rfl (awake_ct _ (by (iterate 9 (try first | assumption | refine Tb.mono ?_ (by assumption))); first | done | assumption)) (fun v h' hl hr => ?_); obtain rfl := hr; conv => whnf))
     | ((first | refine opsI.step ?_ | refine codeI.step ?_); conv => whnf)
     | (intro (_ : Nat); conv => whnf)
     | (show cnd _ _ _; first
       | (refine cnd_eq (fun _ => ?_) (fun _ => ?_) <;> first | (exfalso; omega) | (conv => whnf)))
     | (show LdN _ _ _ _ _; first
       | (refine LdN.own 0 rfl rfl ?_; conv => whnf)
       | (refine LdN.own 1 rfl rfl ?_; conv => whnf))
    all_goals exact RetN.all rfl

end Go.Proofs.YthgggofobbokeaaDoor
