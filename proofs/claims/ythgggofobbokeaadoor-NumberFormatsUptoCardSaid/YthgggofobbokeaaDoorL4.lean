/- What the statements on products, quotients, whole parts, the grid, powers, canonical values, bits, comparisons and ints compute: true. -/
import Derived.Test.YthgggofobbokeaaDoorL3
import Derived.Test.YthgggofobbokeaaDoorQ5
set_option linter.unusedVariables false
set_option linter.unusedSimpArgs false
namespace Go.Proofs.YthgggofobbokeaaDoor
open Go Go.Vc Go.Dig

theorem Rok.spec1 (op : Rat → Rat) (n1 : Bool) (l1 m1 : List Nat) : Rok (Proofs.YthgggofobbokeaaDoor.spec1 op n1 l1 m1) := by
  unfold Proofs.YthgggofobbokeaaDoor.spec1
  split
  · exact Rok.out _
  · exact Rok.err1 1
theorem Rok.specDiv (n1 : Bool) (l1 m1 : List Nat) (n2 : Bool) (l2 m2 : List Nat) : Rok (Proofs.YthgggofobbokeaaDoor.specDiv n1 l1 m1 n2 l2 m2) := by
  unfold Proofs.YthgggofobbokeaaDoor.specDiv
  split
  · split
    · exact Rok.err1 10
    · exact Rok.out _
  · exact Rok.err1 1
theorem Rok.specGrid (up : Bool) (n1 : Bool) (l1 m1 : List Nat) (p : Int) : Rok (Proofs.YthgggofobbokeaaDoor.specGrid up n1 l1 m1 p) := by
  unfold Proofs.YthgggofobbokeaaDoor.specGrid
  split
  · split
    · exact Rok.err1 2
    · exact Rok.out _
  · exact Rok.err1 1
theorem Rok.specPow (n1 : Bool) (l1 m1 : List Nat) (n : Int) : Rok (Proofs.YthgggofobbokeaaDoor.specPow n1 l1 m1 n) := by
  unfold Proofs.YthgggofobbokeaaDoor.specPow
  split
  · split
    · exact Rok.err1 2
    · split
      · exact Rok.err1 10
      · exact Rok.out _
  · exact Rok.err1 1
theorem Res.two {h : Heap} {v : Value} {q : Rat} {e : Int} (r : Res h v (q, e)) : ∃ a b : Sl, v = .tuple #[.agg #[.bool (sg q), a.val, b.val], .int .i64 e] ∧ IsRat h a b q := r
theorem okR.out {n : Bool} {l m : List Nat} (h : okR n l m) : outR (ratOf n l m) = (ratOf n l m, 0) := if_pos h.2.2
theorem Large_t (h : Heap) (neg : Bool) (a b : Sl) (l m : List Nat) (hk : okR neg l m) (hv : IsVal h a b l m) : Fn0 T F.ref01_Large [.agg #[.bool neg, a.val, b.val]] h fun v _ => v = .bool false :=
  (Large_ct h neg a b l m hv).mono fun v h' _ r => by rw [r, dec_true hk] <;> rfl
theorem Large_f (h : Heap) (neg : Bool) (a b : Sl) (l m : List Nat) (hk : ¬ okR neg l m) (hv : IsVal h a b l m) : Fn0 T F.ref01_Large [.agg #[.bool neg, a.val, b.val]] h fun v _ => v = .bool true :=
  (Large_ct h neg a b l m hv).mono fun v h' _ r => by rw [r, dec_false hk] <;> rfl
theorem None_z (h : Heap) (a b : Sl) (q : Rat) (h0 : q = 0) (hq : IsRat h a b q) : Fn0 T F.law01_None [.agg #[.bool (sg q), a.val, b.val]] h fun v h' => h' = h ∧ v = .bool true := by
  subst h0; exact None_ct h a b hq
theorem Equal_self (h : Heap) (a b c d : Sl) (q : Rat) (hq : IsRat h a b q) (hr : IsRat h c d q) (hs : Sz 1073741824 q) : Fn0 T F.ref01_Equal [.agg #[.bool (sg q), a.val, b.val], .agg #[.bool (sg q), c.val, d.val]] h fun v _ => v = .bool true :=
  (Equal_ct h a b c d q q hq hr hs hs).mono fun v h' _ r => by rw [r, dec_true rfl]

set_option maxRecDepth 20000 in
set_option maxHeartbeats 1000000 in
theorem Muls_law (h : Heap) (tb : Tb h) (n1 : Bool) (a1 b1 : Sl) (l1 m1 : List Nat) (hv1 : IsVal h a1 b1 l1 m1) (n2 : Bool) (a2 b2 : Sl) (l2 m2 : List Nat) (hv2 : IsVal h a2 b2 l2 m2) :
    Fn0 T F.law01_NumberMuls [.agg #[.bool n1, a1.val, b1.val], .agg #[.bool n2, a2.val, b2.val]] h fun v _ => v = .bool true := by
  have k1 := Rok.spec2 (· * ·) n1 l1 m1 n2 l2 m2
  obtain ⟨p1, hp1⟩ : ∃ p, p = spec2 (· * ·) n1 l1 m1 n2 l2 m2 := ⟨_, rfl⟩
  rw [← hp1] at k1
  have k2 := Rok.specDiv n1 l1 m1 n2 l2 m2
  obtain ⟨p2, hp2⟩ : ∃ p, p = specDiv n1 l1 m1 n2 l2 m2 := ⟨_, rfl⟩
  rw [← hp2] at k2
  refine fn0_of_codeI ok D.law01_NumberMuls rfl ?_
  conv => whnf
  repeat ((first | refine opsI.step ?_ | refine codeI.step ?_); conv => whnf)
  repeat' first
   | (show CallN _ _ _ _ _ _; first
     | (refine CallN.fn rfl (NMul_ct _ (by assumption) _ _ _ l1 m1 _ _ _ l2 m2 (by assumption) (by assumption)) (fun v h' hl hr => ?_); rw [← hp1] at hr; obtain ⟨x, y, rfl, hq⟩ := hr; conv => whnf)
     | (refine CallN.fn rfl (RMul_ct _ _ _ _ l1 m1 _ _ _ l2 m2 (by (iterate 30 (try first | assumption | refine IsVal.mono ?_ (by assumption))); first | done | assumption) (by (iterate 30 (try first | assumption | refine IsVal.mono ?_ (by assumption))); first | done | assumption)) (fun v h' hl hr => ?_); rw [← hp1] at hr; obtain ⟨x, y, rfl, hq⟩ := hr; conv => whnf)
     | (refine CallN.fn rfl (Is_ct _ _ _ _ _ p1.1 p1.2 (by (iterate 30 (try first | assumption | refine IsRat.mono ?_ (by assumption))); first | done | assumption) (by (iterate 30 (try first | assumption | refine IsRat.mono ?_ (by assumption))); first | done | assumption) k1.sz k1.err) (fun v h' hl hr => ?_); obtain rfl := hr; conv => whnf)
     | (refine CallN.fn rfl (NDiv_ct _ (by (iterate 30 (try first | assumption | refine Tb.mono ?_ (by assumption))); first | done | assumption) _ _ _ l1 m1 _ _ _ l2 m2 (by (iterate 30 (try first | assumption | refine IsVal.mono ?_ (by assumption))); first | done | assumption) (by (iterate 30 (try first | assumption | refine IsVal.mono ?_ (by assumption))); first | done | assumption)) (fun v h' hl hr => ?_); rw [← hp2] at hr; obtain ⟨x, y, rfl, hq⟩ := hr; conv => whnf)
     | (refine CallN.fn rfl (RQuo_ct _ _ _ _ l1 m1 _ _ _ l2 m2 (by (iterate 30 (try first | assumption | refine IsVal.mono ?_ (by assumption))); first | done | assumption) (by (iterate 30 (try first | assumption | refine IsVal.mono ?_ (by assumption))); first | done | assumption)) (fun v h' hl hr => ?_); rw [← hp2] at hr; obtain ⟨x, y, rfl, hq⟩ := hr; conv => whnf)
     | (refine CallN.fn rfl (Is_ct _ _ _ _ _ p2.1 p2.2 (by (iterate 30 (try first | assumption | refine IsRat.mono ?_ (by assumption))); first | done | assumption) (by (iterate 30 (try first | assumption | refine IsRat.mono ?_ (by assumption))); first | done | assumption) k2.sz k2.err) (fun v h' hl hr => ?_); obtain rfl := hr; conv => whnf)
     | (refine CallN.fn rfl (awake_ct _ (by (iterate 30 (try first | assumption | refine Tb.mono ?_ (by assumption))); first | done | assumption)) (fun v h' hl hr => ?_); obtain rfl := hr; conv => whnf))
   | ((first | refine opsI.step ?_ | refine codeI.step ?_); conv => whnf)
   | (intro (_ : Nat); conv => whnf)
   | (show LdN _ _ _ _ _; first
     | (refine LdN.own 0 rfl rfl ?_; conv => whnf)
     | (refine LdN.own 1 rfl rfl ?_; conv => whnf)
     | (refine LdN.own 2 rfl rfl ?_; conv => whnf)
     | (refine LdN.own 3 rfl rfl ?_; conv => whnf)
     | (refine LdN.own 4 rfl rfl ?_; conv => whnf))
   | (show Sto _ _ _ _; first
     | (refine Sto.lit 0 rfl rfl rfl ?_; conv => whnf))
  all_goals exact RetN.all rfl
set_option maxRecDepth 20000 in
set_option maxHeartbeats 1000000 in
theorem Floors_law (h : Heap) (tb : Tb h) (n1 : Bool) (a1 b1 : Sl) (l1 m1 : List Nat) (hv1 : IsVal h a1 b1 l1 m1) :
    Fn0 T F.law01_NumberFloors [.agg #[.bool n1, a1.val, b1.val]] h fun v _ => v = .bool true := by
  have k1 := Rok.spec1 (fun q => gridQ q 0 false) n1 l1 m1
  obtain ⟨p1, hp1⟩ : ∃ p, p = spec1 (fun q => gridQ q 0 false) n1 l1 m1 := ⟨_, rfl⟩
  rw [← hp1] at k1
  have k2 := Rok.spec1 (fun q => gridQ q 0 true) n1 l1 m1
  obtain ⟨p2, hp2⟩ : ∃ p, p = spec1 (fun q => gridQ q 0 true) n1 l1 m1 := ⟨_, rfl⟩
  rw [← hp2] at k2
  refine fn0_of_codeI ok D.law01_NumberFloors rfl ?_
  conv => whnf
  repeat ((first | refine opsI.step ?_ | refine codeI.step ?_); conv => whnf)
  repeat' first
   | (show CallN _ _ _ _ _ _; first
     | (refine CallN.fn rfl (NFloor_ct _ (by assumption) _ _ _ l1 m1 (by assumption)) (fun v h' hl hr => ?_); rw [← hp1] at hr; obtain ⟨x, y, rfl, hq⟩ := hr; conv => whnf)
     | (refine CallN.fn rfl (RFloor_ct _ _ _ _ l1 m1 (by (iterate 30 (try first | assumption | refine IsVal.mono ?_ (by assumption))); first | done | assumption)) (fun v h' hl hr => ?_); rw [← hp1] at hr; obtain ⟨x, y, rfl, hq⟩ := hr; conv => whnf)
     | (refine CallN.fn rfl (Is_ct _ _ _ _ _ p1.1 p1.2 (by (iterate 30 (try first | assumption | refine IsRat.mono ?_ (by assumption))); first | done | assumption) (by (iterate 30 (try first | assumption | refine IsRat.mono ?_ (by assumption))); first | done | assumption) k1.sz k1.err) (fun v h' hl hr => ?_); obtain rfl := hr; conv => whnf)
     | (refine CallN.fn rfl (NCeil_ct _ (by (iterate 30 (try first | assumption | refine Tb.mono ?_ (by assumption))); first | done | assumption) _ _ _ l1 m1 (by (iterate 30 (try first | assumption | refine IsVal.mono ?_ (by assumption))); first | done | assumption)) (fun v h' hl hr => ?_); rw [← hp2] at hr; obtain ⟨x, y, rfl, hq⟩ := hr; conv => whnf)
     | (refine CallN.fn rfl (RCeil_ct _ _ _ _ l1 m1 (by (iterate 30 (try first | assumption | refine IsVal.mono ?_ (by assumption))); first | done | assumption)) (fun v h' hl hr => ?_); rw [← hp2] at hr; obtain ⟨x, y, rfl, hq⟩ := hr; conv => whnf)
     | (refine CallN.fn rfl (Is_ct _ _ _ _ _ p2.1 p2.2 (by (iterate 30 (try first | assumption | refine IsRat.mono ?_ (by assumption))); first | done | assumption) (by (iterate 30 (try first | assumption | refine IsRat.mono ?_ (by assumption))); first | done | assumption) k2.sz k2.err) (fun v h' hl hr => ?_); obtain rfl := hr; conv => whnf)
     | (refine CallN.fn rfl (awake_ct _ (by (iterate 30 (try first | assumption | refine Tb.mono ?_ (by assumption))); first | done | assumption)) (fun v h' hl hr => ?_); obtain rfl := hr; conv => whnf))
   | ((first | refine opsI.step ?_ | refine codeI.step ?_); conv => whnf)
   | (intro (_ : Nat); conv => whnf)
   | (show LdN _ _ _ _ _; first
     | (refine LdN.own 0 rfl rfl ?_; conv => whnf)
     | (refine LdN.own 1 rfl rfl ?_; conv => whnf)
     | (refine LdN.own 2 rfl rfl ?_; conv => whnf)
     | (refine LdN.own 3 rfl rfl ?_; conv => whnf))
   | (show Sto _ _ _ _; first
     | (refine Sto.lit 0 rfl rfl rfl ?_; conv => whnf))
  all_goals exact RetN.all rfl
set_option maxRecDepth 20000 in
set_option maxHeartbeats 1000000 in
theorem Grids_law (h : Heap) (tb : Tb h) (n1 : Bool) (a1 b1 : Sl) (l1 m1 : List Nat) (hv1 : IsVal h a1 b1 l1 m1) (n : Int) (lo : -9223372036854775808 ≤ n) (hi : n ≤ 9223372036854775807) :
    Fn0 T F.law01_NumberGrids [.agg #[.bool n1, a1.val, b1.val], .int .i64 n] h fun v _ => v = .bool true := by
  have k1 := Rok.specGrid false n1 l1 m1 n
  obtain ⟨p1, hp1⟩ : ∃ p, p = specGrid false n1 l1 m1 n := ⟨_, rfl⟩
  rw [← hp1] at k1
  have k2 := Rok.specGrid true n1 l1 m1 n
  obtain ⟨p2, hp2⟩ : ∃ p, p = specGrid true n1 l1 m1 n := ⟨_, rfl⟩
  rw [← hp2] at k2
  refine fn0_of_codeI ok D.law01_NumberGrids rfl ?_
  conv => whnf
  repeat ((first | refine opsI.step ?_ | refine codeI.step ?_); conv => whnf)
  repeat' first
   | (show CallN _ _ _ _ _ _; first
     | (refine CallN.fn rfl (NDown_ct _ (by assumption) _ _ _ l1 m1 (by assumption) n) (fun v h' hl hr => ?_); rw [← hp1] at hr; obtain ⟨x, y, rfl, hq⟩ := hr; conv => whnf)
     | (refine CallN.fn rfl (RGrid_ct _ _ _ _ l1 m1 (by (iterate 30 (try first | assumption | refine IsVal.mono ?_ (by assumption))); first | done | assumption) n lo hi false) (fun v h' hl hr => ?_); rw [← hp1] at hr; obtain ⟨x, y, rfl, hq⟩ := hr; conv => whnf)
     | (refine CallN.fn rfl (Is_ct _ _ _ _ _ p1.1 p1.2 (by (iterate 30 (try first | assumption | refine IsRat.mono ?_ (by assumption))); first | done | assumption) (by (iterate 30 (try first | assumption | refine IsRat.mono ?_ (by assumption))); first | done | assumption) k1.sz k1.err) (fun v h' hl hr => ?_); obtain rfl := hr; conv => whnf)
     | (refine CallN.fn rfl (NUp_ct _ (by (iterate 30 (try first | assumption | refine Tb.mono ?_ (by assumption))); first | done | assumption) _ _ _ l1 m1 (by (iterate 30 (try first | assumption | refine IsVal.mono ?_ (by assumption))); first | done | assumption) n) (fun v h' hl hr => ?_); rw [← hp2] at hr; obtain ⟨x, y, rfl, hq⟩ := hr; conv => whnf)
     | (refine CallN.fn rfl (RGrid_ct _ _ _ _ l1 m1 (by (iterate 30 (try first | assumption | refine IsVal.mono ?_ (by assumption))); first | done | assumption) n lo hi true) (fun v h' hl hr => ?_); rw [← hp2] at hr; obtain ⟨x, y, rfl, hq⟩ := hr; conv => whnf)
     | (refine CallN.fn rfl (Is_ct _ _ _ _ _ p2.1 p2.2 (by (iterate 30 (try first | assumption | refine IsRat.mono ?_ (by assumption))); first | done | assumption) (by (iterate 30 (try first | assumption | refine IsRat.mono ?_ (by assumption))); first | done | assumption) k2.sz k2.err) (fun v h' hl hr => ?_); obtain rfl := hr; conv => whnf)
     | (refine CallN.fn rfl (awake_ct _ (by (iterate 30 (try first | assumption | refine Tb.mono ?_ (by assumption))); first | done | assumption)) (fun v h' hl hr => ?_); obtain rfl := hr; conv => whnf))
   | ((first | refine opsI.step ?_ | refine codeI.step ?_); conv => whnf)
   | (intro (_ : Nat); conv => whnf)
   | (show LdN _ _ _ _ _; first
     | (refine LdN.own 0 rfl rfl ?_; conv => whnf)
     | (refine LdN.own 1 rfl rfl ?_; conv => whnf)
     | (refine LdN.own 2 rfl rfl ?_; conv => whnf)
     | (refine LdN.own 3 rfl rfl ?_; conv => whnf))
   | (show Sto _ _ _ _; first
     | (refine Sto.lit 0 rfl rfl rfl ?_; conv => whnf))
  all_goals exact RetN.all rfl
set_option maxRecDepth 20000 in
set_option maxHeartbeats 1000000 in
theorem Pows_law (h : Heap) (tb : Tb h) (n1 : Bool) (a1 b1 : Sl) (l1 m1 : List Nat) (hv1 : IsVal h a1 b1 l1 m1) (n : Int) (lo : -9223372036854775808 ≤ n) (hi : n ≤ 9223372036854775807) :
    Fn0 T F.law01_NumberPows [.agg #[.bool n1, a1.val, b1.val], .int .i64 n] h fun v _ => v = .bool true := by
  have k1 := Rok.specPow n1 l1 m1 n
  obtain ⟨p1, hp1⟩ : ∃ p, p = specPow n1 l1 m1 n := ⟨_, rfl⟩
  rw [← hp1] at k1
  refine fn0_of_codeI ok D.law01_NumberPows rfl ?_
  conv => whnf
  repeat ((first | refine opsI.step ?_ | refine codeI.step ?_); conv => whnf)
  repeat' first
   | (show CallN _ _ _ _ _ _; first
     | (refine CallN.fn rfl (NPow_ct _ (by assumption) _ _ _ l1 m1 (by assumption) n lo hi) (fun v h' hl hr => ?_); rw [← hp1] at hr; obtain ⟨x, y, rfl, hq⟩ := hr; conv => whnf)
     | (refine CallN.fn rfl (RPow_ct _ _ _ _ l1 m1 (by (iterate 30 (try first | assumption | refine IsVal.mono ?_ (by assumption))); first | done | assumption) n lo hi) (fun v h' hl hr => ?_); rw [← hp1] at hr; obtain ⟨x, y, rfl, hq⟩ := hr; conv => whnf)
     | (refine CallN.fn rfl (Is_ct _ _ _ _ _ p1.1 p1.2 (by (iterate 30 (try first | assumption | refine IsRat.mono ?_ (by assumption))); first | done | assumption) (by assumption) k1.sz k1.err) (fun v h' hl hr => ?_); obtain rfl := hr; conv => whnf)
     | (refine CallN.fn rfl (awake_ct _ (by (iterate 30 (try first | assumption | refine Tb.mono ?_ (by assumption))); first | done | assumption)) (fun v h' hl hr => ?_); obtain rfl := hr; conv => whnf))
   | ((first | refine opsI.step ?_ | refine codeI.step ?_); conv => whnf)
   | (intro (_ : Nat); conv => whnf)
   | (show LdN _ _ _ _ _; first
     | (refine LdN.own 0 rfl rfl ?_; conv => whnf)
     | (refine LdN.own 1 rfl rfl ?_; conv => whnf))
   | (show Sto _ _ _ _; first
     | (refine Sto.lit 0 rfl rfl rfl ?_; conv => whnf))
  all_goals exact RetN.all rfl
end Go.Proofs.YthgggofobbokeaaDoor
