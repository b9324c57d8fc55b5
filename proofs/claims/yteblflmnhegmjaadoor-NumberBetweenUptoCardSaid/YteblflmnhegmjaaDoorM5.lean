/- What the statement on what lies between two numbers computes: true. -/
import Derived.Test.YteblflmnhegmjaaDoorM4
set_option linter.unusedVariables false
set_option linter.unusedSimpArgs false
namespace Go.Proofs.YteblflmnhegmjaaDoor
open Go Go.Vc Go.Dig
def simR : Option Rat → Option Rat → Rat × Int
  | some x, some y => if 0 < cmpQ x y then (0, 11) else outR (smpQ x y)
  | _, _ => (0, 1)
theorem simR_val (n1 : Bool) (l1 m1 : List Nat) (n2 : Bool) (l2 m2 : List Nat) : specSmp n1 l1 m1 n2 l2 m2 = simR (valOf n1 l1 m1) (valOf n2 l2 m2) := by
  unfold specSmp valOf
  by_cases h1 : okR n1 l1 m1 <;> by_cases h2 : okR n2 l2 m2 <;> simp [h1, h2, simR]
theorem val_fits {n : Bool} {l m : List Nat} {q : Rat} (h : valOf n l m = some q) : fits q ∧ q = ratOf n l m := by
  unfold valOf at h
  split at h
  · rename_i k; cases h; exact ⟨k.2.2, rfl⟩
  · cases h
theorem between_facts {n1 n2 n3 : Bool} {l1 m1 l2 m2 l3 m3 : List Nat} {p1 : Rat × Int} {c1 d1 c2 d2 c3 d3 c4 d4 : Int}
    (g1 : p1 = specSmp n1 l1 m1 n2 l2 m2) (g2 : (c1, d1) = cmpR (valOf n1 l1 m1) (some p1.1)) (g3 : (c2, d2) = cmpR (some p1.1) (valOf n2 l2 m2)) (g4 : (c3, d3) = cmpR (valOf n1 l1 m1) (valOf n3 l3 m3)) (g5 : (c4, d4) = cmpR (valOf n3 l3 m3) (valOf n2 l2 m2)) :
    p1.2 = 0 → d1 = 0 ∧ d2 = 0 ∧ c1 ≤ 0 ∧ c2 ≤ 0 ∧ (d3 = 0 → d4 = 0 → c3 ≤ 0 → c4 ≤ 0 → p1.1.den ≤ (ratOf n3 l3 m3).den ∧ nu p1.1 ≤ nu (ratOf n3 l3 m3)) := by
  intro h0
  rw [simR_val] at g1
  have v1 := fun q => val_fits (n := n1) (l := l1) (m := m1) (q := q)
  have v2 := fun q => val_fits (n := n2) (l := l2) (m := m2) (q := q)
  have v3 := fun q => val_fits (n := n3) (l := l3) (m := m3) (q := q)
  generalize valOf n1 l1 m1 = x at *
  generalize valOf n2 l2 m2 = y at *
  generalize valOf n3 l3 m3 = z at *
  cases x with
  | none => subst g1; simp [simR] at h0
  | some X =>
    cases y with
    | none => subst g1; simp [simR] at h0
    | some Y =>
      have fx := (v1 X rfl).1
      have fy := (v2 Y rfl).1
      by_cases hc : 0 < cmpQ X Y
      · rw [simR, if_pos hc] at g1; subst g1; simp at h0
      · rw [simR, if_neg hc] at g1
        have ft := smpQ_fits fx fy (by omega)
        rw [outR, if_pos ft] at g1
        subst g1
        have l := leastQ fx fy (show cmpQ X Y ≤ 0 by omega)
        simp only [cmpR, Prod.mk.injEq] at g2 g3
        obtain ⟨rfl, rfl⟩ := g2
        obtain ⟨rfl, rfl⟩ := g3
        refine ⟨rfl, rfl, l.lo, l.hi, fun a b c d => ?_⟩
        cases z with
        | none => simp [cmpR] at g4; omega
        | some Z =>
          simp only [cmpR, Prod.mk.injEq] at g4 g5
          obtain ⟨rfl, rfl⟩ := g4
          obtain ⟨rfl, rfl⟩ := g5
          rw [← (v3 Z rfl).2]
          exact l.min Z c d
set_option maxRecDepth 20000 in
set_option maxHeartbeats 2000000 in
theorem Between_law (h : Heap) (tb : Tb h) (n1 : Bool) (a1 b1 : Sl) (l1 m1 : List Nat) (hv1 : IsVal h a1 b1 l1 m1) (n2 : Bool) (a2 b2 : Sl) (l2 m2 : List Nat) (hv2 : IsVal h a2 b2 l2 m2) (n3 : Bool) (a3 b3 : Sl) (l3 m3 : List Nat) (hv3 : IsVal h a3 b3 l3 m3) :
    Fn0 T F.law01_NumberBetween [.agg #[.bool n1, a1.val, b1.val], .agg #[.bool n2, a2.val, b2.val], .agg #[.bool n3, a3.val, b3.val]] h fun v _ => v = .bool true := by
  have k1 := Fok.specSmp n1 l1 m1 n2 l2 m2
  obtain ⟨p1, g1⟩ : ∃ p, p = specSmp n1 l1 m1 n2 l2 m2 := ⟨_, rfl⟩
  rw [← g1] at k1
  obtain ⟨c1, d1, g2⟩ : ∃ c d, (c, d) = cmpR (valOf n1 l1 m1) (some p1.1) := ⟨_, _, rfl⟩
  obtain ⟨c2, d2, g3⟩ : ∃ c d, (c, d) = cmpR (some p1.1) (valOf n2 l2 m2) := ⟨_, _, rfl⟩
  obtain ⟨c3, d3, g4⟩ : ∃ c d, (c, d) = cmpR (valOf n1 l1 m1) (valOf n3 l3 m3) := ⟨_, _, rfl⟩
  obtain ⟨c4, d4, g5⟩ : ∃ c d, (c, d) = cmpR (valOf n3 l3 m3) (valOf n2 l2 m2) := ⟨_, _, rfl⟩
  have ft := between_facts g1 g2 g3 g4 g5
  have s3 := ratOf_sr (neg := n3) hv3
  obtain ⟨Z, hZ⟩ : ∃ Z, Z = ratOf n3 l3 m3 := ⟨_, rfl⟩
  rw [← hZ] at ft s3
  have s1 := fits_sr k1.ft
  have b1' := s1.num
  have b2' := s1.den
  have b3' := s3.num
  have b4' := s3.den
  have ft2 : p1.2 = 0 → d1 = 0 ∧ d2 = 0 ∧ c1 ≤ 0 ∧ c2 ≤ 0 ∧ (d3 = 0 → d4 = 0 → c3 ≤ 0 → c4 ≤ 0 → cmpI p1.1.den Z.den ≤ 0 ∧ cmpI (nu p1.1) (nu Z) ≤ 0) := fun x => by
    obtain ⟨e1, e2, e3, e4, e5⟩ := ft x
    exact ⟨e1, e2, e3, e4, fun a b c d => ⟨cmpI_le.2 (e5 a b c d).1, cmpI_le.2 (e5 a b c d).2⟩⟩
  clear ft
  have w1 := hv1.num' (n := n1)
  have w2 := hv2.num' (n := n2)
  have w3 := hv3.num' (n := n3)
  obtain ⟨N, hN⟩ : ∃ N, N = nu p1.1 := ⟨_, rfl⟩
  obtain ⟨Dd, hD⟩ : ∃ D, D = p1.1.den := ⟨_, rfl⟩
  obtain ⟨M, hM⟩ : ∃ N, N = nu Z := ⟨_, rfl⟩
  obtain ⟨E, hE⟩ : ∃ D, D = Z.den := ⟨_, rfl⟩
  rw [← hN, ← hD, ← hM, ← hE] at ft2
  rw [← hN] at b1'
  rw [← hD] at b2'
  rw [← hM] at b3'
  rw [← hE] at b4'
  refine fn0_of_codeI ok D.law01_NumberBetween rfl ?_
  conv => whnf
  repeat ((first | refine opsI.step ?_ | refine codeI.step ?_); conv => whnf)
  repeat' first
   | ((first | refine opsI.step ?_ | refine codeI.step ?_); conv => whnf)
   | (intro (_ : Nat); conv => whnf)
   | (show LdN _ _ _ _ _; first
     | (refine LdN.own 1 rfl rfl ?_; conv => whnf)
     | (refine LdN.own 2 rfl rfl ?_; conv => whnf))
  refine CallN.fn rfl (NSimplest_ct _ (by assumption) _ _ _ l1 m1 _ _ _ l2 m2 (by assumption) (by assumption)) (fun v h1 hl1 hr => ?_)
  rw [← g1] at hr
  obtain ⟨e1, f1, rfl, hq1, hn1⟩ := hr.isn k1
  conv => whnf
  repeat ((first | refine opsI.step ?_ | refine codeI.step ?_); conv => whnf)
  repeat' first
   | (show CallN _ _ _ _ _ _; first
     | (refine CallN.fn rfl (awake_ct _ (by (iterate 30 (try first | assumption | refine Tb.mono ?_ (by assumption))); first | done | assumption)) (fun v h' hl hr => ?_); obtain rfl := hr; conv => whnf))
   | ((first | refine opsI.step ?_ | refine codeI.step ?_); conv => whnf)
   | (intro (_ : Nat); conv => whnf)
   | (show cnd _ _ _; first
     | (refine cnd_eq (fun _ => ?_) (fun _ => ?_) <;> first | (exfalso; omega) | (conv => whnf))
     | (refine cnd_not ?_))
   | (show LdN _ _ _ _ _; first
     | (refine LdN.own 0 rfl rfl ?_; conv => whnf)
     | (refine LdN.own 3 rfl rfl ?_; conv => whnf))
   | (show Sto _ _ _ _; first
     | (refine Sto.lit 0 rfl rfl rfl ?_; conv => whnf))
  all_goals first
    | exact RetN.all rfl
    | skip
  refine CallN.fn rfl (CompareN _ _ _ _ _ _ _ (valOf n1 l1 m1) (some p1.1) (by (iterate 30 (try first | assumption | refine Tb.mono ?_ (by assumption))); first | done | assumption) (by (iterate 30 (try first | assumption | refine IsNum.mono ?_ (by assumption))); first | done | assumption) (by assumption)) (fun v h3 hl3 hr => ?_)
  rw [← g2] at hr
  obtain rfl := (show v = .tuple #[.int .i64 c1, .int .i64 d1] from hr)
  conv => whnf
  repeat ((first | refine opsI.step ?_ | refine codeI.step ?_); conv => whnf)
  repeat' first
   | ((first | refine opsI.step ?_ | refine codeI.step ?_); conv => whnf)
   | (show LdN _ _ _ _ _; first
     | (refine LdN.own 0 rfl rfl ?_; conv => whnf)
     | (refine LdN.own 2 rfl rfl ?_; conv => whnf))
  refine CallN.fn rfl (CompareN _ _ _ _ _ _ _ (some p1.1) (valOf n2 l2 m2) (by (iterate 30 (try first | assumption | refine Tb.mono ?_ (by assumption))); first | done | assumption) (by (iterate 30 (try first | assumption | refine IsNum.mono ?_ (by assumption))); first | done | assumption) (by (iterate 30 (try first | assumption | refine IsNum.mono ?_ (by assumption))); first | done | assumption)) (fun v h4 hl4 hr => ?_)
  rw [← g3] at hr
  obtain rfl := (show v = .tuple #[.int .i64 c2, .int .i64 d2] from hr)
  obtain ⟨q1, q2, q3, q4, q5⟩ := ft2 (by omega)
  clear ft2
  conv => whnf
  repeat ((first | refine opsI.step ?_ | refine codeI.step ?_); conv => whnf)
  repeat' first
   | ((first | refine opsI.step ?_ | refine codeI.step ?_); conv => whnf)
   | (show cnd _ _ _; first
     | (refine cnd_lt (fun _ => ?_) (fun _ => ?_) <;> first | (exfalso; omega) | (conv => whnf))
     | (refine cnd_eq (fun _ => ?_) (fun _ => ?_) <;> first | (exfalso; omega) | (conv => whnf))
     | (refine cnd_not ?_))
   | (show LdN _ _ _ _ _; first
     | (refine LdN.own 1 rfl rfl ?_; conv => whnf)
     | (refine LdN.own 3 rfl rfl ?_; conv => whnf))
  refine CallN.fn rfl (CompareN _ _ _ _ _ _ _ (valOf n1 l1 m1) (valOf n3 l3 m3) (by (iterate 30 (try first | assumption | refine Tb.mono ?_ (by assumption))); first | done | assumption) (by (iterate 30 (try first | assumption | refine IsNum.mono ?_ (by assumption))); first | done | assumption) (by (iterate 30 (try first | assumption | refine IsNum.mono ?_ (by assumption))); first | done | assumption)) (fun v h5 hl5 hr => ?_)
  rw [← g4] at hr
  obtain rfl := (show v = .tuple #[.int .i64 c3, .int .i64 d3] from hr)
  conv => whnf
  repeat ((first | refine opsI.step ?_ | refine codeI.step ?_); conv => whnf)
  repeat' first
   | ((first | refine opsI.step ?_ | refine codeI.step ?_); conv => whnf)
   | (show LdN _ _ _ _ _; first
     | (refine LdN.own 1 rfl rfl ?_; conv => whnf)
     | (refine LdN.own 2 rfl rfl ?_; conv => whnf))
  refine CallN.fn rfl (CompareN _ _ _ _ _ _ _ (valOf n3 l3 m3) (valOf n2 l2 m2) (by (iterate 30 (try first | assumption | refine Tb.mono ?_ (by assumption))); first | done | assumption) (by (iterate 30 (try first | assumption | refine IsNum.mono ?_ (by assumption))); first | done | assumption) (by (iterate 30 (try first | assumption | refine IsNum.mono ?_ (by assumption))); first | done | assumption)) (fun v h6 hl6 hr => ?_)
  rw [← g5] at hr
  obtain rfl := (show v = .tuple #[.int .i64 c4, .int .i64 d4] from hr)
  conv => whnf
  repeat ((first | refine opsI.step ?_ | refine codeI.step ?_); conv => whnf)
  repeat' first
   | (show CallN _ _ _ _ _ _; first
     | (refine CallN.fn rfl (awake_ct _ (by (iterate 30 (try first | assumption | refine Tb.mono ?_ (by assumption))); first | done | assumption)) (fun v h' hl hr => ?_); obtain rfl := hr; conv => whnf))
   | ((first | refine opsI.step ?_ | refine codeI.step ?_); conv => whnf)
   | (refine ⟨fun _ => HasLe.cons _, ?_⟩; conv => whnf)
   | (intro (_ : Nat); conv => whnf)
   | (show cnd _ _ _; first
     | (refine cnd_lt (fun _ => ?_) (fun _ => ?_) <;> first | (exfalso; omega) | (conv => whnf))
     | (refine cnd_eq (fun _ => ?_) (fun _ => ?_) <;> first | (exfalso; omega) | (conv => whnf))
     | (refine cnd_not ?_))
   | (show LdN _ _ _ _ _; first
     | (refine LdN.own 0 rfl rfl ?_; conv => whnf)
     | (refine LdN.own 1 rfl rfl ?_; conv => whnf))
   | (show DrawN _ _ _ _ _ _; first
     | (refine DrawN.run (by decide +kernel) ?_; conv => whnf))
   | (show Both _ _; first
     | (refine Both.mk ?_ ?_ <;> (conv => whnf)))
  all_goals first
    | exact RetN.all rfl
    | skip
  all_goals
    obtain ⟨q6, q7⟩ := q5 (by omega) (by omega) (by omega) (by omega)
    clear q5 g1 g2 g3 g4 g5
  all_goals (repeat' first
     | (show CallN _ _ _ _ _ _; first
       | (refine CallN.fn rfl (QOf_r _ _ _ p1.1 (by (iterate 30 (try first | assumption | refine IsRat.mono ?_ (by assumption))); first | done | assumption) k1.ft) (fun v h' hl hr => ?_); obtain ⟨e, f, rfl, hq⟩ := hr; have hqn := hq.num; have hqd := hq.den; rw [← hN] at hqn; rw [← hD] at hqd; conv => whnf)
       | (refine CallN.fn rfl (QOf_ct _ _ _ _ l3 m3 (by (iterate 30 (try first | assumption | refine IsVal.mono ?_ (by assumption))); first | done | assumption)) (fun v h' hl hr => ?_); rw [← hZ] at hr; obtain ⟨e, f, rfl, hq⟩ := hr; have hqn := hq.num; have hqd := hq.den; rw [← hM] at hqn; rw [← hE] at hqd; conv => whnf)
       | (refine CallN.quiet rfl (NatCmp_ct _ _ _ Dd E (by (iterate 30 (try first | assumption | refine IsRef.mono ?_ (by assumption))); first | done | assumption) (by assumption) (by omega) (by omega)) ?_; conv => whnf)
       | (refine CallN.quiet rfl (NatCmp_ct _ _ _ N M (by (iterate 30 (try first | assumption | refine IsRef.mono ?_ (by assumption))); first | done | assumption) (by assumption) (by omega) (by omega)) ?_; conv => whnf)
       | (refine CallN.fn rfl (awake_ct _ (by (iterate 30 (try first | assumption | refine Tb.mono ?_ (by assumption))); first | done | assumption)) (fun v h' hl hr => ?_); obtain rfl := hr; conv => whnf))
     | ((first | refine opsI.step ?_ | refine codeI.step ?_); conv => whnf)
     | (refine ⟨fun _ => HasLe.of_le (by assumption), ?_⟩; conv => whnf)
     | (refine ⟨fun _ => HasLe.cons _, ?_⟩; conv => whnf)
     | (refine ⟨fun hst => (by cases (show true = false from hst)), ?_⟩; conv => whnf)
     | (intro (_ : Nat); conv => whnf)
     | (show cnd _ _ _; first
       | (refine cnd_lt (fun _ => ?_) (fun _ => ?_) <;> first | (exfalso; omega) | (conv => whnf))
       | (refine cnd_le (fun _ => ?_) (fun _ => ?_) <;> first | (exfalso; omega) | (conv => whnf))
       | (refine cnd_eq (fun _ => ?_) (fun _ => ?_) <;> first | (exfalso; omega) | (conv => whnf)))
     | (show Ld _ _ _ _; first
       | (refine Ld.own 0 rfl rfl ?_; conv => whnf)
       | (refine Ld.own 1 rfl rfl ?_; conv => whnf))
     | (show Sto _ _ _ _; first
       | (refine Sto.lit 0 rfl rfl rfl ?_; conv => whnf)
       | (refine Sto.lit 1 rfl rfl rfl ?_; conv => whnf))
     | (show Both _ _; first
       | (refine Both.mk ?_ ?_ <;> (conv => whnf))))
  all_goals exact RetN.all rfl
end Go.Proofs.YteblflmnhegmjaaDoor
