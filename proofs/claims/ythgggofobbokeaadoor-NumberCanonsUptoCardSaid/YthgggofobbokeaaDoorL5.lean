/- What the statements on canonical values and bits compute: true. -/
import Derived.Test.YthgggofobbokeaaDoorL4
set_option linter.unusedVariables false
set_option linter.unusedSimpArgs false
namespace Go.Proofs.YthgggofobbokeaaDoor
open Go Go.Vc Go.Dig

set_option maxRecDepth 20000 in
set_option maxHeartbeats 1000000 in
theorem Canons_law (h : Heap) (tb : Tb h) (n1 : Bool) (a1 b1 : Sl) (l1 m1 : List Nat) (hv1 : IsVal h a1 b1 l1 m1) :
    Fn0 T F.law01_NumberCanons [.agg #[.bool n1, a1.val, b1.val]] h fun v _ => v = .bool true := by
  by_cases hk : okR n1 l1 m1
  · have e : spec1 (fun q => q) n1 l1 m1 = (ratOf n1 l1 m1, 0) := by unfold spec1; rw [if_pos hk, hk.out]
    have s1 := ratOf_sr2 hk
    have z1 := okR.sz hk
    obtain ⟨q, eqq⟩ : ∃ q, q = ratOf n1 l1 m1 := ⟨_, rfl⟩
    rw [← eqq] at e s1 z1
    have y1 : Sr 4294967296 q := s1.mono (by decide)
    have y2 : Sz 1073741824 q := z1.mono (by decide)
    refine fn0_of_codeI ok D.law01_NumberCanons rfl ?_
    conv => whnf
    repeat ((first | refine opsI.step ?_ | refine codeI.step ?_); conv => whnf)
    repeat' first
     | (show CallN _ _ _ _ _ _; first
       | (refine CallN.fn rfl (NCanon_ct _ (by assumption) _ _ _ l1 m1 (by assumption)) (fun v h' hl hr => ?_); rw [e] at hr; obtain ⟨x, y, rfl, hq⟩ := Res.two hr; conv => whnf)
       | (refine CallN.fn rfl (Large_t _ _ _ _ l1 m1 hk (by (iterate 9 (try first | assumption | refine IsVal.mono ?_ (by assumption))); first | done | assumption)) (fun v h' hl hr => ?_); obtain rfl := hr; conv => whnf)
       | (refine CallN.fn rfl (QOf_ct _ _ _ _ l1 m1 (by (iterate 9 (try first | assumption | refine IsVal.mono ?_ (by assumption))); first | done | assumption)) (fun v h' hl hx => ?_); rw [← eqq] at hx; obtain ⟨p1, p2, rfl, hp⟩ := hx; conv => whnf)
       | (refine CallN.fn rfl (Rat_ct _ _ _ q (by assumption) y1) (fun v h' hl hr => ?_); obtain ⟨x, y, rfl, hq⟩ := hr; conv => whnf)
       | (refine CallN.fn rfl (Is_ct _ _ _ _ _ q 0 (by (iterate 9 (try first | assumption | refine IsRat.mono ?_ (by assumption))); first | done | assumption) (by assumption) y2 (fun hh => absurd rfl hh)) (fun v h' hl hr => ?_); obtain rfl := hr; conv => whnf)
       | (refine CallN.fn rfl (awake_ct _ (by (iterate 9 (try first | assumption | refine Tb.mono ?_ (by assumption))); first | done | assumption)) (fun v h' hl hr => ?_); obtain rfl := hr; conv => whnf))
     | ((first | refine opsI.step ?_ | refine codeI.step ?_); conv => whnf)
     | (refine ⟨fun _ => HasLe.of_le (by assumption), ?_⟩; conv => whnf)
     | (intro (_ : Nat); conv => whnf)
     | (show LdN _ _ _ _ _; first
       | (refine LdN.own 0 rfl rfl ?_; conv => whnf)
       | (refine LdN.own 1 rfl rfl ?_; conv => whnf))
     | (show Sto _ _ _ _; first
       | (refine Sto.lit 0 rfl rfl rfl ?_; conv => whnf))
     | (show DrawN _ _ _ _ _ _; first
       | (refine DrawN.run (by decide +kernel) ?_; conv => whnf))
    all_goals exact RetN.all rfl
  · have e : spec1 (fun q => q) n1 l1 m1 = (0, 1) := if_neg hk
    obtain ⟨z, hz⟩ : ∃ z : Rat, z = 0 := ⟨_, rfl⟩
    rw [← hz] at e
    refine fn0_of_codeI ok D.law01_NumberCanons rfl ?_
    conv => whnf
    repeat ((first | refine opsI.step ?_ | refine codeI.step ?_); conv => whnf)
    repeat' first
     | (show CallN _ _ _ _ _ _; first
       | (refine CallN.fn rfl (NCanon_ct _ (by assumption) _ _ _ l1 m1 (by assumption)) (fun v h' hl hr => ?_); rw [e] at hr; obtain ⟨x, y, rfl, hq⟩ := Res.two hr; conv => whnf)
       | (refine CallN.fn rfl (Large_f _ _ _ _ l1 m1 hk (by (iterate 9 (try first | assumption | refine IsVal.mono ?_ (by assumption))); first | done | assumption)) (fun v h' hl hr => ?_); obtain rfl := hr; conv => whnf)
       | (refine CallN.quiet rfl (None_z _ _ _ z hz (by (iterate 9 (try first | assumption | refine IsRat.mono ?_ (by assumption))); first | done | assumption)) ?_; conv => whnf)
       | (refine CallN.fn rfl (awake_ct _ (by (iterate 9 (try first | assumption | refine Tb.mono ?_ (by assumption))); first | done | assumption)) (fun v h' hl hr => ?_); obtain rfl := hr; conv => whnf))
     | ((first | refine opsI.step ?_ | refine codeI.step ?_); conv => whnf)
     | (intro (_ : Nat); conv => whnf)
     | (show cnd _ _ _; first
       | (refine cnd_eq (fun _ => ?_) (fun _ => ?_) <;> first | (exfalso; omega) | (conv => whnf)))
     | (show LdN _ _ _ _ _; first
       | (refine LdN.own 0 rfl rfl ?_; conv => whnf)
       | (refine LdN.own 1 rfl rfl ?_; conv => whnf))
     | (show Sto _ _ _ _; first
       | (refine Sto.lit 0 rfl rfl rfl ?_; conv => whnf))
    all_goals exact RetN.all rfl

set_option maxRecDepth 20000 in
set_option maxHeartbeats 1000000 in
theorem Bits_law (h : Heap) (tb : Tb h) (n1 : Bool) (a1 b1 : Sl) (l1 m1 : List Nat) (hv1 : IsVal h a1 b1 l1 m1) :
    Fn0 T F.law01_NumberBits [.agg #[.bool n1, a1.val, b1.val]] h fun v _ => v = .bool true := by
  by_cases hk : okR n1 l1 m1
  · have e : specBits n1 l1 m1 = (bitsQ (ratOf n1 l1 m1), 0) := if_pos hk
    have s1 := ratOf_sr2 hk
    obtain ⟨q, eqq⟩ : ∃ q, q = ratOf n1 l1 m1 := ⟨_, rfl⟩
    rw [← eqq] at e s1
    obtain ⟨c, hc⟩ : ∃ c, c = bitsQ q := ⟨_, rfl⟩
    rw [← hc] at e
    have y1 : Sr 1073741824 q := s1.mono (by decide)
    refine fn0_of_codeI ok D.law01_NumberBits rfl ?_
    conv => whnf
    repeat ((first | refine opsI.step ?_ | refine codeI.step ?_); conv => whnf)
    repeat' first
     | (show CallN _ _ _ _ _ _; first
       | (refine CallN.fn rfl (NBits_ct _ (by assumption) _ _ _ l1 m1 (by assumption)) (fun v h' hl hr => ?_); rw [e] at hr; obtain rfl := (show v = .tuple #[.int .i64 c, .int .i64 0] from hr); conv => whnf)
       | (refine CallN.fn rfl (Large_t _ _ _ _ l1 m1 hk (by (iterate 9 (try first | assumption | refine IsVal.mono ?_ (by assumption))); first | done | assumption)) (fun v h' hl hr => ?_); obtain rfl := hr; conv => whnf)
       | (refine CallN.fn rfl (QOf_ct _ _ _ _ l1 m1 (by (iterate 9 (try first | assumption | refine IsVal.mono ?_ (by assumption))); first | done | assumption)) (fun v h' hl hx => ?_); rw [← eqq] at hx; obtain ⟨p1, p2, rfl, hp⟩ := hx; conv => whnf)
       | (refine CallN.fn rfl (Digits_ct _ _ _ q (by assumption) y1) (fun v h' hl hr => ?_); rw [← hc] at hr; obtain rfl := hr; conv => whnf)
       | (refine CallN.fn rfl (awake_ct _ (by (iterate 9 (try first | assumption | refine Tb.mono ?_ (by assumption))); first | done | assumption)) (fun v h' hl hr => ?_); obtain rfl := hr; conv => whnf))
     | ((first | refine opsI.step ?_ | refine codeI.step ?_); conv => whnf)
     | (intro (_ : Nat); conv => whnf)
     | (show cnd _ _ _; first
       | (refine cnd_eq (fun _ => ?_) (fun _ => ?_) <;> first | (exfalso; omega) | (conv => whnf)))
     | (show LdN _ _ _ _ _; first
       | (refine LdN.own 0 rfl rfl ?_; conv => whnf))
    all_goals exact RetN.all rfl
  · have e : specBits n1 l1 m1 = (0, 1) := if_neg hk
    refine fn0_of_codeI ok D.law01_NumberBits rfl ?_
    conv => whnf
    repeat ((first | refine opsI.step ?_ | refine codeI.step ?_); conv => whnf)
    repeat' first
     | (show CallN _ _ _ _ _ _; first
       | (refine CallN.fn rfl (NBits_ct _ (by assumption) _ _ _ l1 m1 (by assumption)) (fun v h' hl hr => ?_); rw [e] at hr; obtain rfl := (show v = .tuple #[.int .i64 0, .int .i64 1] from hr); conv => whnf)
       | (refine CallN.fn rfl (Large_f _ _ _ _ l1 m1 hk (by (iterate 9 (try first | assumption | refine IsVal.mono ?_ (by assumption))); first | done | assumption)) (fun v h' hl hr => ?_); obtain rfl := hr; conv => whnf)
       | (refine CallN.fn rfl (awake_ct _ (by (iterate 9 (try first | assumption | refine Tb.mono ?_ (by assumption))); first | done | assumption)) (fun v h' hl hr => ?_); obtain rfl := hr; conv => whnf))
     | ((first | refine opsI.step ?_ | refine codeI.step ?_); conv => whnf)
     | (intro (_ : Nat); conv => whnf)
     | (show cnd _ _ _; first
       | (refine cnd_eq (fun _ => ?_) (fun _ => ?_) <;> first | (exfalso; omega) | (conv => whnf)))
     | (show LdN _ _ _ _ _; first
       | (refine LdN.own 0 rfl rfl ?_; conv => whnf))
    all_goals exact RetN.all rfl

end Go.Proofs.YthgggofobbokeaaDoor
