/- What the statement on the steps of the grid computes: true. -/
import Derived.Test.YteblflmnhegmjaaDoorU2
import Derived.Test.YteblflmnhegmjaaDoorQ5
set_option linter.unusedVariables false
set_option linter.unusedSimpArgs false
namespace Go.Proofs.YteblflmnhegmjaaDoor
open Go Go.Vc Go.Dig

theorem ln_pow2 {p k : Nat} (h : p < 32 * k) : ln 4294967296 (2 ^ p) ≤ k := by
  rw [ln_le_iff two_le_B, show (4294967296 : Nat) = 2 ^ 32 from rfl, ← Nat.pow_mul]
  exact Nat.pow_lt_pow_right (by decide) h
theorem fits_step {p : Nat} (hp : p ≤ 255) : fits (scaleQ ((1 : Int) : Rat) (-(p : Int))) := by
  have e : scaleQ ((1 : Int) : Rat) (-(p : Int)) = mkQ false 1 (2 ^ p) := by
    rcases Nat.eq_zero_or_pos p with h | h
    · subst h
      rw [scaleQ_up _ _ 0 (by omega), sg_int, nu_int, den_int]; rfl
    · rw [scaleQ_dn _ _ p rfl (by omega), sg_int, nu_int, den_int, Nat.one_mul]; rfl
  have h := mkQ_le false (m := 1) (two_pow_ne p)
  rw [e]
  refine ⟨Nat.le_trans (ln_le_of_le h.1) ?_, Nat.le_trans (ln_le_of_le h.2) (ln_pow2 (by omega))⟩
  rw [ln_one _ two_le_B]; decide
theorem step_facts {x : Option Rat} {p : Int} (h0 : 0 ≤ p) (h1 : p ≤ 255) {p1 p2 p4 : Rat × Int} {c1 d1 c2 d2 c3 d3 : Int} (g1 : p1 = gridR false x p) (g2 : p2 = gridR true x p) (g3 : (c1, d1) = cmpR (some p1.1) x) (g4 : (c2, d2) = cmpR x (some p2.1))
    (g5 : (c3, d3) = cmpR (some p1.1) (some p2.1)) (g6 : p4 = opR (· - ·) (some p2.1) (some p1.1)) :
    (p1.2 = 0 ∨ p1.2 = 1) ∧ (p2.2 = 0 ∨ p2.2 = 1) ∧ (p1.2 = 0 → p2.2 = 0 → d1 = 0 ∧ d2 = 0 ∧ d3 = 0 ∧ c1 ≤ 0 ∧ c2 ≤ 0 ∧ (c3 = 0 → c1 = 0) ∧ (c3 ≠ 0 → c1 < 0 ∧ c2 < 0 ∧ p4.2 = 0)) ∧ (p1.2 = 0 → p2.2 = 0 → c3 ≠ 0 → p4.1 = scaleQ ((1 : Int) : Rat) (-p)) := by
  have out01 : ∀ q : Rat, (outR q).2 = 0 ∨ (outR q).2 = 1 := fun q => by unfold outR; split <;> simp
  cases x with
  | none => subst g1 g2; simp [gridR]
  | some X =>
    obtain ⟨P, rfl⟩ : ∃ P : Nat, p = P := ⟨p.toNat, by omega⟩
    have e1 : gridR false (some X) P = outR (gridQ X P false) := if_neg (by omega)
    have e2 : gridR true (some X) P = outR (gridQ X P true) := if_neg (by omega)
    rw [e1] at g1
    rw [e2] at g2
    subst g1 g2
    refine ⟨out01 _, out01 _, ?_, ?_⟩
    all_goals
      intro z1 z2
      have w1 := outR_ok z1
      have w2 := outR_ok z2
      rw [w1] at g3 g5 g6
      rw [w2] at g4 g5 g6
      obtain ⟨a1, a2⟩ := Prod.mk.inj g3
      obtain ⟨a3, a4⟩ := Prod.mk.inj g4
      obtain ⟨a5, a6⟩ := Prod.mk.inj g5
      have t1 := cmp_tri (gridQ X P false) X
      have t2 := cmp_tri X (gridQ X P true)
      have t3 := cmp_tri (gridQ X P false) (gridQ X P true)
      rw [← a1] at t1
      rw [← a3] at t2
      rw [← a5] at t3
      have l1 := grid_le X P
      have l2 := le_grid X P
    · refine ⟨a2, a4, a6, ?_, ?_, ?_, ?_⟩
      · rcases t1 with ⟨t, -⟩ | ⟨t, -⟩ | ⟨-, t⟩
        · omega
        · omega
        · exact absurd l1 (Rat.not_le.2 t)
      · rcases t2 with ⟨t, -⟩ | ⟨t, -⟩ | ⟨-, t⟩
        · omega
        · omega
        · exact absurd l2 (Rat.not_le.2 t)
      · intro h
        rw [h] at a5
        rw [a1]
        exact cmpQ_eq.2 (grid_same (cmpQ_eq.1 a5.symm))
      · intro h
        have hne : gridQ X P false ≠ gridQ X P true := fun e => h (by rw [a5]; exact cmpQ_eq.2 e)
        obtain ⟨s1, s2, s3⟩ := grid_step hne
        have q1 := cmpQ_lt.2 s2
        have q2 := cmpQ_lt.2 s3
        refine ⟨by omega, by omega, ?_⟩
        rw [g6]
        show (outR (gridQ X P true - gridQ X P false)).2 = 0
        rw [s1]
        unfold outR
        rw [if_pos (fits_step (by omega))]
    · intro h
      have hne : gridQ X P false ≠ gridQ X P true := fun e => h (by rw [a5]; exact cmpQ_eq.2 e)
      obtain ⟨s1, s2, s3⟩ := grid_step hne
      rw [g6]
      show (outR (gridQ X P true - gridQ X P false)).1 = _
      rw [s1]
      unfold outR
      rw [if_pos (fits_step (by omega))]
theorem QOf_r (h : Heap) (a b : Sl) (q : Rat) (hq : IsRat h a b q) (hf : fits q) :
    Fn0 T F.ref01_Of [.agg #[.bool (sg q), a.val, b.val]] h fun v h' => ∃ c d : Sl, v = .agg #[.bool (sg q), c.val, d.val] ∧ IsQ h' c d q := by
  have := QOf_ct h (sg q) a b _ _ (israt_val hq (fits_sz hf))
  rw [ratOf_dg] at this
  exact this

set_option maxRecDepth 20000 in
set_option maxHeartbeats 4000000 in
theorem Steps_walk (h : Heap) (tb : Tb h) (n1 : Bool) (a1 b1 : Sl) (x : Option Rat) (hx : IsNum h n1 a1 b1 x) (p : Int) (lo : 0 ≤ p) (hi : p ≤ 255) :
    Fn0 T F.law01_NumberSteps [.agg #[.bool n1, a1.val, b1.val], .int .u8 p] h fun v _ => v = .bool true := by
  obtain ⟨p1, g1⟩ : ∃ q, q = gridR false x p := ⟨_, rfl⟩
  obtain ⟨p2, g2⟩ : ∃ q, q = gridR true x p := ⟨_, rfl⟩
  obtain ⟨⟨c1, d1⟩, g3⟩ : ∃ q : Int × Int, q = cmpR (some p1.1) x := ⟨_, rfl⟩
  obtain ⟨⟨c2, d2⟩, g4⟩ : ∃ q : Int × Int, q = cmpR x (some p2.1) := ⟨_, rfl⟩
  obtain ⟨⟨c3, d3⟩, g5⟩ : ∃ q : Int × Int, q = cmpR (some p1.1) (some p2.1) := ⟨_, rfl⟩
  obtain ⟨p4, g6⟩ : ∃ q, q = opR (· - ·) (some p2.1) (some p1.1) := ⟨_, rfl⟩
  obtain ⟨k1, k2, k3, k4⟩ := step_facts lo hi g1 g2 g3 g4 g5 g6
  have hf4 : fits p4.1 := by rw [g6]; exact (Fok.opR _ _ _).ft
  have hs4 : Sr 65536 p4.1 := (Sr.of (k := 64) ⟨hf4.1, hf4.2⟩).mono (by decide)
  have s1 : Sr 1 ((1 : Int) : Rat) := by
    refine ⟨?_, ?_⟩
    · rw [nu_int]; exact (ln_le_iff two_le_b (k := 1)).2 (by decide)
    · rw [den_int, ln_one _ two_le_b]; exact Nat.le_refl _
  have s2 : Sr 1073741824 ((1 : Int) : Rat) := s1.mono (by decide)
  have s3 : Sr 65536 (scaleQ ((1 : Int) : Rat) (-p)) := (s1.scale (-p)).mono (by omega)
  have kc : p1.2 = 0 → p2.2 = 0 → c3 ≠ 0 → cmpQ p4.1 (scaleQ ((1 : Int) : Rat) (-p)) = 0 := fun a b c => cmpQ_eq.2 (k4 a b c)
  clear k4
  have c5 := fun (h : Heap) (a b : Sl) (w : IsQ h a b ((1 : Int) : Rat)) => Scaled_ct h a b ((1 : Int) : Rat) (-p) w s2 (by omega) (by omega)
  have c6 := fun (h : Heap) => Int_ct h 1 (by decide) (by decide)
  obtain ⟨u, hu⟩ : ∃ u, u = ((1 : Int) : Rat) := ⟨_, rfl⟩
  obtain ⟨w, hw⟩ : ∃ w, w = scaleQ u (-p) := ⟨_, rfl⟩
  rw [← hu] at s3 kc c5 c6
  rw [← hw] at s3 kc c5
  clear hu hw s1 s2
  refine fn0_of_codeI ok D.law01_NumberSteps rfl ?_
  conv => whnf
  repeat ((first | refine opsI.step ?_ | refine codeI.step ?_); conv => whnf)
  repeat' first
   | ((first | refine opsI.step ?_ | refine codeI.step ?_); conv => whnf)
   | (intro (_ : Nat); conv => whnf)
   | (show WrapN _ _ _; first
     | (refine WrapN.i64 (by omega) (by omega) ?_; conv => whnf))
   | (show LdN _ _ _ _ _; first
     | (refine LdN.own 0 rfl rfl ?_; conv => whnf))
  refine CallN.fn rfl (DownN _ _ _ _ x p (by assumption) (by assumption)) (fun v h1 hl1 hr => ?_)
  rw [← g1] at hr
  obtain ⟨e1, f1, rfl, hq1, hn1⟩ := hr
  conv => whnf
  repeat ((first | refine opsI.step ?_ | refine codeI.step ?_); conv => whnf)
  repeat' first
   | ((first | refine opsI.step ?_ | refine codeI.step ?_); conv => whnf)
   | (intro (_ : Nat); conv => whnf)
   | (show WrapN _ _ _; first
     | (refine WrapN.i64 (by omega) (by omega) ?_; conv => whnf))
   | (show LdN _ _ _ _ _; first
     | (refine LdN.own 1 rfl rfl ?_; conv => whnf))
   | (show Sto _ _ _ _; first
     | (refine Sto.lit 0 rfl rfl rfl ?_; conv => whnf))
  refine CallN.fn rfl (UpN _ _ _ _ x p (by (iterate 30 (try first | assumption | refine Tb.mono ?_ (by assumption))); first | done | assumption) (by (iterate 30 (try first | assumption | refine IsNum.mono ?_ (by assumption))); first | done | assumption)) (fun v h2 hl2 hr => ?_)
  rw [← g2] at hr
  obtain ⟨e2, f2, rfl, hq2, hn2⟩ := hr
  conv => whnf
  repeat ((first | refine opsI.step ?_ | refine codeI.step ?_); conv => whnf)
  repeat' first
   | (show CallN _ _ _ _ _ _; first
     | (refine CallN.fn rfl (awake_ct _ (by (iterate 30 (try first | assumption | refine Tb.mono ?_ (by assumption))); first | done | assumption)) (fun v h' hl hr => ?_); obtain rfl := hr; conv => whnf))
   | ((first | refine opsI.step ?_ | refine codeI.step ?_); conv => whnf)
   | (intro (_ : Nat); conv => whnf)
   | (show cnd _ _ _; first
     | (refine cnd_eq (fun _ => ?_) (fun _ => ?_) <;> first | (exfalso; omega) | (conv => whnf))
     | (refine cnd_not ?_))
   | (show LdN _ _ _ _ _; first
     | (refine LdN.own 1 rfl rfl ?_; conv => whnf)
     | (refine LdN.own 2 rfl rfl ?_; conv => whnf))
   | (show Sto _ _ _ _; first
     | (refine Sto.lit 0 rfl rfl rfl ?_; conv => whnf))
  all_goals first
    | exact RetN.all rfl
    | skip
  refine CallN.fn rfl (CompareN _ _ _ _ _ _ _ (some p1.1) x (by (iterate 30 (try first | assumption | refine Tb.mono ?_ (by assumption))); first | done | assumption) (by (iterate 30 (try first | assumption | refine IsNum.mono ?_ (by assumption))); first | done | assumption) (by (iterate 30 (try first | assumption | refine IsNum.mono ?_ (by assumption))); first | done | assumption)) (fun v h3 hl3 hr => ?_)
  rw [← g3] at hr
  obtain rfl := (show v = .tuple #[.int .i64 c1, .int .i64 d1] from hr)
  conv => whnf
  repeat ((first | refine opsI.step ?_ | refine codeI.step ?_); conv => whnf)
  repeat' first
   | ((first | refine opsI.step ?_ | refine codeI.step ?_); conv => whnf)
   | (show LdN _ _ _ _ _; first
     | (refine LdN.own 0 rfl rfl ?_; conv => whnf)
     | (refine LdN.own 2 rfl rfl ?_; conv => whnf))
  refine CallN.fn rfl (CompareN _ _ _ _ _ _ _ x (some p2.1) (by (iterate 30 (try first | assumption | refine Tb.mono ?_ (by assumption))); first | done | assumption) (by (iterate 30 (try first | assumption | refine IsNum.mono ?_ (by assumption))); first | done | assumption) (by (iterate 30 (try first | assumption | refine IsNum.mono ?_ (by assumption))); first | done | assumption)) (fun v h4 hl4 hr => ?_)
  rw [← g4] at hr
  obtain rfl := (show v = .tuple #[.int .i64 c2, .int .i64 d2] from hr)
  conv => whnf
  repeat ((first | refine opsI.step ?_ | refine codeI.step ?_); conv => whnf)
  repeat' first
   | ((first | refine opsI.step ?_ | refine codeI.step ?_); conv => whnf)
   | (show LdN _ _ _ _ _; first
     | (refine LdN.own 0 rfl rfl ?_; conv => whnf)
     | (refine LdN.own 1 rfl rfl ?_; conv => whnf))
  refine CallN.fn rfl (CompareN _ _ _ _ _ _ _ (some p1.1) (some p2.1) (by (iterate 30 (try first | assumption | refine Tb.mono ?_ (by assumption))); first | done | assumption) (by (iterate 30 (try first | assumption | refine IsNum.mono ?_ (by assumption))); first | done | assumption) (by (iterate 30 (try first | assumption | refine IsNum.mono ?_ (by assumption))); first | done | assumption)) (fun v h5 hl5 hr => ?_)
  rw [← g5] at hr
  obtain rfl := (show v = .tuple #[.int .i64 c3, .int .i64 d3] from hr)
  conv => whnf
  repeat ((first | refine opsI.step ?_ | refine codeI.step ?_); conv => whnf)
  repeat' first
   | (show CallN _ _ _ _ _ _; first
     | (refine CallN.fn rfl (awake_ct _ (by (iterate 30 (try first | assumption | refine Tb.mono ?_ (by assumption))); first | done | assumption)) (fun v h' hl hr => ?_); obtain rfl := hr; conv => whnf))
   | ((first | refine opsI.step ?_ | refine codeI.step ?_); conv => whnf)
   | (show cnd _ _ _; first
     | (refine cnd_lt (fun _ => ?_) (fun _ => ?_) <;> first | (exfalso; omega) | (conv => whnf))
     | (refine cnd_eq (fun _ => ?_) (fun _ => ?_) <;> first | (exfalso; omega) | (conv => whnf))
     | (refine cnd_not ?_))
   | (show LdN _ _ _ _ _; first
     | (refine LdN.own 0 rfl rfl ?_; conv => whnf)
     | (refine LdN.own 1 rfl rfl ?_; conv => whnf))
  all_goals first
    | exact RetN.all rfl
    | skip
  refine CallN.fn rfl (SubN _ _ _ _ _ _ _ (some p2.1) (some p1.1) (by (iterate 30 (try first | assumption | refine Tb.mono ?_ (by assumption))); first | done | assumption) (by (iterate 30 (try first | assumption | refine IsNum.mono ?_ (by assumption))); first | done | assumption) (by (iterate 30 (try first | assumption | refine IsNum.mono ?_ (by assumption))); first | done | assumption)) (fun v h6 hl6 hr => ?_)
  rw [← g6] at hr
  obtain ⟨e6, f6, rfl, hq6, hn6⟩ := hr
  conv => whnf
  repeat ((first | refine opsI.step ?_ | refine codeI.step ?_); conv => whnf)
  repeat' first
   | (show CallN _ _ _ _ _ _; first
     | (refine CallN.fn rfl (awake_ct _ (by (iterate 30 (try first | assumption | refine Tb.mono ?_ (by assumption))); first | done | assumption)) (fun v h' hl hr => ?_); obtain rfl := hr; conv => whnf)
     | (refine CallN.fn rfl (QOf_r _ _ _ p4.1 (by assumption) hf4) (fun v h' hl hr => ?_); obtain ⟨e, f, rfl, hq⟩ := hr; conv => whnf)
     | (refine CallN.fn rfl (c6 _) (fun v h' hl hr => ?_); obtain ⟨e, f, rfl, hq⟩ := hr; conv => whnf)
     | (refine CallN.fn rfl (c5 _ _ _ (by assumption)) (fun v h' hl hr => ?_); obtain ⟨e, f, rfl, hq⟩ := hr; conv => whnf)
     | (refine CallN.fn rfl (RCmp_ct _ _ _ _ _ p4.1 w (by (iterate 30 (try first | assumption | refine IsQ.mono ?_ (by assumption))); first | done | assumption) (by assumption) hs4 s3) (fun v h' hl hr => ?_); rw [kc (by omega) (by omega) (by omega)] at hr; obtain rfl := hr; conv => whnf))
   | (show WrapN _ _ _; first
     | (refine WrapN.i64v (-p) (by omega) (by omega) (by omega) ?_; conv => whnf)
     | (refine WrapN.i64 (by omega) (by omega) ?_; conv => whnf))
   | ((first | refine opsI.step ?_ | refine codeI.step ?_); conv => whnf)
   | (intro (_ : Nat); conv => whnf)
   | (show cnd _ _ _; first
     | (refine cnd_lt (fun _ => ?_) (fun _ => ?_) <;> first | (exfalso; omega) | (conv => whnf))
     | (refine cnd_eq (fun _ => ?_) (fun _ => ?_) <;> first | (exfalso; omega) | (conv => whnf)))
   | (show LdN _ _ _ _ _; first
     | (refine LdN.own 0 rfl rfl ?_; conv => whnf))
   | (show Sto _ _ _ _; first
     | (refine Sto.lit 0 rfl rfl rfl ?_; conv => whnf))
  all_goals exact RetN.all rfl
theorem Steps_law (h : Heap) (tb : Tb h) (n1 : Bool) (a1 b1 : Sl) (l1 m1 : List Nat) (hv1 : IsVal h a1 b1 l1 m1) (p : Int) (lo : 0 ≤ p) (hi : p ≤ 255) :
    Fn0 T F.law01_NumberSteps [.agg #[.bool n1, a1.val, b1.val], .int .u8 p] h fun v _ => v = .bool true :=
  Steps_walk h tb n1 a1 b1 _ hv1.num' p lo hi
end Go.Proofs.YteblflmnhegmjaaDoor
