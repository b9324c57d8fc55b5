/- What the statement on ints computes: true. -/
import Derived.Test.YthgggofobbokeaaDoorL4
set_option linter.unusedVariables false
set_option linter.unusedSimpArgs false
namespace Go.Proofs.YthgggofobbokeaaDoor
open Go Go.Vc Go.Dig

set_option maxRecDepth 20000 in
set_option maxHeartbeats 1000000 in
theorem Ints_law (h : Heap) (tb : Tb h) (n : Int) (lo : -9223372036854775808 ≤ n) (hi : n ≤ 9223372036854775807) :
    Fn0 T F.law01_NumberInts [.int .i64 n] h fun v _ => v = .bool true := by
  have f1 := fits_int n lo hi
  have f2 := fits_int 1 (by decide) (by decide)
  have zz : ∀ q : Rat, fits q → Sz 1073741824 q := fun q hf => ⟨Nat.le_trans hf.1 (by decide), Nat.le_trans hf.2 (by decide)⟩
  have y1 := zz _ f1
  have y2 := zz _ f2
  have r1 : Sr 4294967296 (n : Rat) := (Sr.of y1).mono (by decide)
  have e : n ≠ 9223372036854775807 → spec2 (· + ·) (sg (n : Rat)) (dg 4294967296 (nu (n : Rat))) (dg 4294967296 (dn (n : Rat))) (sg ((1 : Int) : Rat)) (dg 4294967296 (nu ((1 : Int) : Rat))) (dg 4294967296 (dn ((1 : Int) : Rat))) = (((n + 1 : Int) : Rat), 0) := fun hn => by
    unfold spec2
    rw [if_pos ⟨okR_dg f1, okR_dg f2⟩]
    show outR (ratOf _ _ _ + ratOf _ _ _) = _
    rw [ratOf_dg, ratOf_dg, ← Rat.intCast_add]
    exact if_pos (fits_int (n + 1) (by omega) (by omega))
  have y3 : n ≠ 9223372036854775807 → Sz 1073741824 ((n + 1 : Int) : Rat) := fun hn => zz _ (fits_int (n + 1) (by omega) (by omega))
  have c1 := fun (h : Heap) => NFromInt_ct h n lo hi
  have c2 := fun (h : Heap) => NFromInt_ct h 1 (by decide) (by decide)
  have c3 := fun (h : Heap) (hn : n ≠ 9223372036854775807) => NFromInt_ct h (n + 1) (by omega) (by omega)
  have c4 := fun (h : Heap) => IntQ_ct h n lo hi
  obtain ⟨q, hq⟩ : ∃ q, q = (n : Rat) := ⟨_, rfl⟩
  obtain ⟨u, hu⟩ : ∃ u, u = ((1 : Int) : Rat) := ⟨_, rfl⟩
  obtain ⟨w, hw⟩ : ∃ w, w = ((n + 1 : Int) : Rat) := ⟨_, rfl⟩
  rw [← hq] at y1 r1 c1 c4 e
  rw [← hu] at y2 c2 e
  rw [← hw] at y3 c3 e
  clear f1 f2 zz hq hu hw
  refine fn0_of_codeI ok D.law01_NumberInts rfl ?_
  conv => whnf
  repeat ((first | refine opsI.step ?_ | refine codeI.step ?_); conv => whnf)
  repeat' first
   | (show CallN _ _ _ _ _ _; first
     | (refine CallN.fn rfl (c1 _) (fun v h' hl hr => ?_); obtain ⟨x, y, rfl, hq⟩ := hr; conv => whnf)
     | (refine CallN.fn rfl (c2 _) (fun v h' hl hr => ?_); obtain ⟨x, y, rfl, hq⟩ := hr; conv => whnf)
     | (refine CallN.fn rfl (c3 _ (by assumption)) (fun v h' hl hr => ?_); obtain ⟨x, y, rfl, hq⟩ := hr; conv => whnf)
     | (refine CallN.fn rfl (c4 _) (fun v h' hl hr => ?_); obtain ⟨x, y, rfl, hq⟩ := hr; conv => whnf)
     | (refine CallN.fn rfl (Canonical_ct _ _ _ q (by assumption) y1) (fun v h' hl hr => ?_); obtain rfl := hr; conv => whnf)
     | (refine CallN.fn rfl (Rat_ct _ _ _ q (by assumption) r1) (fun v h' hl hr => ?_); obtain ⟨x, y, rfl, hq⟩ := hr; conv => whnf)
     | (refine CallN.fn rfl (Equal_self _ _ _ _ _ q (by (iterate 30 (try first | assumption | refine IsRat.mono ?_ (by assumption))); first | done | assumption) (by assumption) y1) (fun v h' hl hr => ?_); obtain rfl := hr; conv => whnf)
     | (refine CallN.fn rfl (NAdd_ct _ _ _ _ (dg 4294967296 (nu q)) (dg 4294967296 (dn q)) _ _ _ (dg 4294967296 (nu u)) (dg 4294967296 (dn u)) (by (iterate 30 (try first | assumption | refine Tb.mono ?_ (by assumption))); first | done | assumption) (israt_val (by (iterate 30 (try first | assumption | refine IsRat.mono ?_ (by assumption))); first | done | assumption) y1) (israt_val (by assumption) y2)) (fun v h' hl hr => ?_); rw [e (by assumption)] at hr; obtain ⟨x, y, rfl, hq⟩ := Res.two hr; conv => whnf)
     | (refine CallN.fn rfl (Equal_self _ _ _ _ _ w (by (iterate 30 (try first | assumption | refine IsRat.mono ?_ (by assumption))); first | done | assumption) (by assumption) (y3 (by assumption))) (fun v h' hl hr => ?_); obtain rfl := hr; conv => whnf)
     | (refine CallN.fn rfl (awake_ct _ (by (iterate 30 (try first | assumption | refine Tb.mono ?_ (by assumption))); first | done | assumption)) (fun v h' hl hr => ?_); obtain rfl := hr; conv => whnf))
   | ((first | refine opsI.step ?_ | refine codeI.step ?_); conv => whnf)
   | (refine ⟨fun _ => HasLe.of_le (by assumption), ?_⟩; conv => whnf)
   | (refine ⟨fun _ => HasLe.cons _, ?_⟩; conv => whnf)
   | (refine ⟨fun hst => (by cases (show true = false from hst)), ?_⟩; conv => whnf)
   | (intro (_ : Nat); conv => whnf)
   | (show WrapN _ _ _; first
     | (refine WrapN.i64 (by omega) (by omega) ?_; conv => whnf))
   | (show cnd _ _ _; first
     | (refine cnd_eq (fun _ => ?_) (fun _ => ?_) <;> first | (exfalso; omega) | (conv => whnf)))
   | (show LdN _ _ _ _ _; first
     | (refine LdN.own 0 rfl rfl ?_; conv => whnf))
   | (show Sto _ _ _ _; first
     | (refine Sto.lit 0 rfl rfl rfl ?_; conv => whnf))
   | (show DrawN _ _ _ _ _ _; first
     | (refine DrawN.run (by decide +kernel) ?_; conv => whnf))
   | (show Both _ _; first
     | (refine Both.mk ?_ ?_ <;> (conv => whnf)))
  all_goals exact RetN.all rfl

end Go.Proofs.YthgggofobbokeaaDoor
