/- What the statement on powers and roots computes: true. -/
import Derived.Test.YteblflmnhegmjaaDoorU3
set_option linter.unusedVariables false
set_option linter.unusedSimpArgs false
namespace Go.Proofs.YteblflmnhegmjaaDoor
open Go Go.Vc Go.Dig

theorem powers1 {x : Option Rat} {k : Nat} (h2 : 2 ≤ k) (h8 : k ≤ 8) (hfx : ∀ q, x = some q → fits q) {p1 p3 p4 : Rat × Int} {p2 : Rat × Bool × Int} (g1 : p1 = powR x k) (g2 : p2 = rootR (some p1.1) k) (g3 : p3 = opR1 absQ x) (g4 : p4 = opR1 (fun q => q) x) (h : p1.2 = 0) :
    p2.2.2 = 0 ∧ p2.2.1 = true ∧ p3.2 = 0 ∧ p4.2 = 0 ∧ (k % 2 = 0 → p2.1 = p3.1) ∧ (k % 2 = 1 → p2.1 = p4.1) := by
  rw [g1] at h
  obtain ⟨q, rfl, e⟩ := powR_ok (by omega) h
  have hf := hfx q rfl
  have e3 : p3 = (absQ q, 0) := by rw [g3]; exact if_pos (fits_abs' hf)
  have e4 : p4 = (q, 0) := by rw [g4]; exact if_pos hf
  have e2 : p2 = ((if k % 2 = 0 then absQ q else q), true, 0) := by
    rw [g2, g1, e]
    show (if (k : Int) < 2 ∨ 8 < (k : Int) then ((0 : Rat), false, (2 : Int)) else ((exactQ (q ^ k) (k : Int).toNat).1, (exactQ (q ^ k) (k : Int).toNat).2, 0)) = _
    rw [if_neg (by omega), Int.toNat_natCast, exact_pow (by omega)]
  rw [e2, e3, e4]
  exact ⟨rfl, rfl, rfl, rfl, fun h => if_pos h, fun h => if_neg (by omega)⟩
theorem powers2 {x : Option Rat} {k p : Nat} (h2 : 2 ≤ k) (h8 : k ≤ 8) (hp : p ≤ 256) {p5 p6 p7 p8 : Rat × Int} {c9 d9 c10 d10 : Int} (g5 : p5 = grR false x k p) (g6 : p6 = grR true x k p) (g7 : p7 = powR (some p5.1) k) (g8 : p8 = powR (some p6.1) k)
    (g9 : (c9, d9) = cmpR (some p7.1) x) (g10 : (c10, d10) = cmpR x (some p8.1)) (h5 : p5.2 = 0) (h6 : p6.2 = 0) : d9 = 0 ∧ d10 = 0 ∧ (p7.2 = 0 → c9 ≤ 0) ∧ (p8.2 = 0 → c10 ≤ 0) := by
  rw [g5] at h5
  rw [g6] at h6
  obtain ⟨q, rfl, hc, e5⟩ := grR_ok h2 h8 hp h5
  obtain ⟨q', hq', hc', e6⟩ := grR_ok h2 h8 hp h6
  cases hq'
  obtain ⟨a1, a2⟩ := Prod.mk.inj g9
  obtain ⟨b1, b2⟩ := Prod.mk.inj g10
  refine ⟨a2, b2, fun h7 => ?_, fun h8' => ?_⟩
  · rw [g7] at h7
    obtain ⟨y, hy, e7⟩ := powR_ok (by omega) h7
    cases hy
    rw [a1, g7, e7, g5, e5]
    exact cmp_le0 (root_low (by omega) hc)
  · rw [g8] at h8'
    obtain ⟨y, hy, e8⟩ := powR_ok (by omega) h8'
    cases hy
    rw [b1, g8, e8, g6, e6]
    exact cmp_le0 (root_high (by omega) hc)

set_option maxRecDepth 20000 in
set_option maxHeartbeats 4000000 in
theorem Powers_walk (h : Heap) (tb : Tb h) (n1 : Bool) (a1 b1 : Sl) (x : Option Rat) (hx : IsNum h n1 a1 b1 x) (n : Int) (lo : 0 ≤ n) (hi : n ≤ 255) (p : Int) (lo' : 0 ≤ p) (hi' : p ≤ 255) :
    Fn0 T F.law01_NumberPowers [.agg #[.bool n1, a1.val, b1.val], .int .u8 n, .int .u8 p] h fun v _ => v = .bool true := by
  obtain ⟨K, hK⟩ : ∃ K : Nat, (2 + n % 7 : Int) = K := ⟨(2 + n % 7).toNat, by omega⟩
  have hk2 : 2 ≤ K := by omega
  have hk8 : K ≤ 8 := by omega
  obtain ⟨p1, g1⟩ : ∃ q, q = powR x K := ⟨_, rfl⟩
  obtain ⟨p2, g2⟩ : ∃ q, q = rootR (some p1.1) K := ⟨_, rfl⟩
  obtain ⟨p3, g3⟩ : ∃ q, q = opR1 absQ x := ⟨_, rfl⟩
  obtain ⟨p4, g4⟩ : ∃ q, q = opR1 (fun q => q) x := ⟨_, rfl⟩
  have k1 := powers1 hk2 hk8 hx.fits g1 g2 g3 g4
  obtain ⟨p5, g5⟩ : ∃ q, q = grR false x K p := ⟨_, rfl⟩
  obtain ⟨p6, g6⟩ : ∃ q, q = grR true x K p := ⟨_, rfl⟩
  obtain ⟨p7, g7⟩ : ∃ q, q = powR (some p5.1) K := ⟨_, rfl⟩
  obtain ⟨p8, g8⟩ : ∃ q, q = powR (some p6.1) K := ⟨_, rfl⟩
  obtain ⟨⟨c9, d9⟩, g9⟩ : ∃ q : Int × Int, q = cmpR (some p7.1) x := ⟨_, rfl⟩
  obtain ⟨⟨c10, d10⟩, g10⟩ : ∃ q : Int × Int, q = cmpR x (some p8.1) := ⟨_, rfl⟩
  have k2 : p5.2 = 0 → p6.2 = 0 → d9 = 0 ∧ d10 = 0 ∧ (p7.2 = 0 → c9 ≤ 0) ∧ (p8.2 = 0 → c10 ≤ 0) := by
    obtain ⟨P, rfl⟩ : ∃ P : Nat, p = P := ⟨p.toNat, by omega⟩
    exact powers2 hk2 hk8 (by omega) g5 g6 g7 g8 g9 g10
  have k3 : p1.2 = 0 → p2.2.2 = 0 ∧ p3.2 = 0 ∧ p4.2 = 0 := fun h => ⟨(k1 h).1, (k1 h).2.2.1, (k1 h).2.2.2.1⟩
  have k4 : p1.2 = 0 → p2.2.1 = true := fun h => (k1 h).2.1
  refine fn0_of_codeI ok D.law01_NumberPowers rfl ?_
  conv => whnf
  repeat ((first | refine opsI.step ?_ | refine codeI.step ?_); conv => whnf)
  repeat' first
   | (show SeqN _ _ _ _ _ _ _; first
     | (refine SeqN.go ?_; conv => whnf))
   | (show RemN _ _ _; first
     | (refine RemN.nn (by omega) (by omega) ?_; conv => whnf))
   | (show WrapN _ _ _; first
     | (refine WrapN.i64v (K : Int) (by omega) (by omega) (by omega) ?_; conv => whnf)
     | (refine WrapN.i64 (by omega) (by omega) ?_; conv => whnf))
   | (show CallN _ _ _ _ _ _; first
     | (refine CallN.fn rfl (PowN _ _ _ _ x K (by omega) (by omega) (by (iterate 30 (try first | assumption | refine Tb.mono ?_ (by assumption))); first | done | assumption) (by (iterate 30 (try first | assumption | refine IsNum.mono ?_ (by assumption))); first | done | assumption)) (fun v h' hl hr => ?_); rw [← g1] at hr; obtain ⟨e, f, rfl, hq, hn⟩ := hr; conv => whnf)
     | (refine CallN.fn rfl (RootN _ _ _ _ (some p1.1) K (by omega) (by omega) (by (iterate 30 (try first | assumption | refine Tb.mono ?_ (by assumption))); first | done | assumption) (by assumption)) (fun v h' hl hr => ?_); rw [← g2] at hr; obtain ⟨e, f, rfl, hq, hn⟩ := hr; rw [k4 (by assumption)]; conv => whnf)
     | (refine CallN.fn rfl (AbsN _ _ _ _ x (by (iterate 30 (try first | assumption | refine Tb.mono ?_ (by assumption))); first | done | assumption) (by (iterate 30 (try first | assumption | refine IsNum.mono ?_ (by assumption))); first | done | assumption)) (fun v h' hl hr => ?_); rw [← g3] at hr; obtain ⟨e, f, rfl, hq, hn⟩ := hr; conv => whnf)
     | (refine CallN.fn rfl (CanonN _ _ _ _ x (by (iterate 30 (try first | assumption | refine Tb.mono ?_ (by assumption))); first | done | assumption) (by (iterate 30 (try first | assumption | refine IsNum.mono ?_ (by assumption))); first | done | assumption)) (fun v h' hl hr => ?_); rw [← g4] at hr; obtain ⟨e, f, rfl, hq, hn⟩ := hr; conv => whnf)
     | (refine CallN.fn rfl (EqualN _ _ _ _ _ _ _ (some p2.1) (some p3.1) p3.1 (by rw [(k1 (by assumption)).2.2.2.2.1 (by omega)]) rfl (by (iterate 30 (try first | assumption | refine IsNum.mono ?_ (by assumption))); first | done | assumption) (by assumption)) (fun v h' hl hr => ?_); obtain rfl := hr; conv => whnf)
     | (refine CallN.fn rfl (EqualN _ _ _ _ _ _ _ (some p2.1) (some p4.1) p4.1 (by rw [(k1 (by assumption)).2.2.2.2.2 (by omega)]) rfl (by (iterate 30 (try first | assumption | refine IsNum.mono ?_ (by assumption))); first | done | assumption) (by assumption)) (fun v h' hl hr => ?_); obtain rfl := hr; conv => whnf)
     | (refine CallN.fn rfl (RootDownN _ _ _ _ x K p (by omega) (by omega) (by omega) (by omega) (by (iterate 30 (try first | assumption | refine Tb.mono ?_ (by assumption))); first | done | assumption) (by (iterate 30 (try first | assumption | refine IsNum.mono ?_ (by assumption))); first | done | assumption)) (fun v h' hl hr => ?_); rw [← g5] at hr; obtain ⟨e, f, rfl, hq, hn⟩ := hr; conv => whnf)
     | (refine CallN.fn rfl (RootUpN _ _ _ _ x K p (by omega) (by omega) (by omega) (by omega) (by (iterate 30 (try first | assumption | refine Tb.mono ?_ (by assumption))); first | done | assumption) (by (iterate 30 (try first | assumption | refine IsNum.mono ?_ (by assumption))); first | done | assumption)) (fun v h' hl hr => ?_); rw [← g6] at hr; obtain ⟨e, f, rfl, hq, hn⟩ := hr; conv => whnf)
     | (refine CallN.fn rfl (PowN _ _ _ _ (some p5.1) K (by omega) (by omega) (by (iterate 30 (try first | assumption | refine Tb.mono ?_ (by assumption))); first | done | assumption) (by (iterate 30 (try first | assumption | refine IsNum.mono ?_ (by assumption))); first | done | assumption)) (fun v h' hl hr => ?_); rw [← g7] at hr; obtain ⟨e, f, rfl, hq, hn⟩ := hr; conv => whnf)
     | (refine CallN.fn rfl (PowN _ _ _ _ (some p6.1) K (by omega) (by omega) (by (iterate 30 (try first | assumption | refine Tb.mono ?_ (by assumption))); first | done | assumption) (by (iterate 30 (try first | assumption | refine IsNum.mono ?_ (by assumption))); first | done | assumption)) (fun v h' hl hr => ?_); rw [← g8] at hr; obtain ⟨e, f, rfl, hq, hn⟩ := hr; conv => whnf)
     | (refine CallN.fn rfl (CompareN _ _ _ _ _ _ _ (some p7.1) x (by (iterate 30 (try first | assumption | refine Tb.mono ?_ (by assumption))); first | done | assumption) (by (iterate 30 (try first | assumption | refine IsNum.mono ?_ (by assumption))); first | done | assumption) (by (iterate 30 (try first | assumption | refine IsNum.mono ?_ (by assumption))); first | done | assumption)) (fun v h' hl hr => ?_); rw [← g9] at hr; obtain rfl := (show v = .tuple #[.int .i64 c9, .int .i64 d9] from hr); conv => whnf)
     | (refine CallN.fn rfl (CompareN _ _ _ _ _ _ _ x (some p8.1) (by (iterate 30 (try first | assumption | refine Tb.mono ?_ (by assumption))); first | done | assumption) (by (iterate 30 (try first | assumption | refine IsNum.mono ?_ (by assumption))); first | done | assumption) (by (iterate 30 (try first | assumption | refine IsNum.mono ?_ (by assumption))); first | done | assumption)) (fun v h' hl hr => ?_); rw [← g10] at hr; obtain rfl := (show v = .tuple #[.int .i64 c10, .int .i64 d10] from hr); conv => whnf)
     | (refine CallN.fn rfl (awake_ct _ (by (iterate 30 (try first | assumption | refine Tb.mono ?_ (by assumption))); first | done | assumption)) (fun v h' hl hr => ?_); obtain rfl := hr; conv => whnf))
   | ((first | refine opsI.step ?_ | refine codeI.step ?_); conv => whnf)
   | (intro (_ : Nat); conv => whnf)
   | (show cnd _ _ _; first
     | (refine cnd_le (fun _ => ?_) (fun _ => ?_) <;> first | (exfalso; omega) | (conv => whnf))
     | (refine cnd_eq (fun _ => ?_) (fun _ => ?_) <;> first | (exfalso; omega) | (conv => whnf))
     | (refine cnd_not ?_))
   | (show LdN _ _ _ _ _; first
     | (refine LdN.own 0 rfl rfl ?_; conv => whnf)
     | (refine LdN.own 1 rfl rfl ?_; conv => whnf)
     | (refine LdN.own 2 rfl rfl ?_; conv => whnf)
     | (refine LdN.own 3 rfl rfl ?_; conv => whnf)
     | (refine LdN.own 4 rfl rfl ?_; conv => whnf)
     | (refine LdN.own 5 rfl rfl ?_; conv => whnf)
     | (refine LdN.own 7 rfl rfl ?_; conv => whnf))
   | (show Sto _ _ _ _; first
     | (refine Sto.lit 0 rfl rfl rfl ?_; conv => whnf))
  all_goals first
    | exact RetN.all rfl
    | skip
end Go.Proofs.YteblflmnhegmjaaDoor
