/- Contracts of the roots of natural numbers: package word's and the reference's. -/
import Derived.Test.YteblflmnhegmjaaDoorQrat
import Derived.Test.YteblflmnhegmjaaDoorQ4
import Derived.Test.YteblflmnhegmjaaDoorN2
set_option linter.unusedVariables false
set_option linter.unusedSimpArgs false
namespace Go.Proofs.YteblflmnhegmjaaDoor
open Go Go.Vc Go.Dig

theorem QuoN.i64v {a b : Int} {k : Int → Prop} (c : Int) (ha : 0 ≤ a) (hb : 0 < b) (hm : a ≤ 9223372036854775807) (hc : a / b = c) (hk : k c) : QuoN .i64 a b k := QuoN.i64 ha hb hm (by rw [hc]; exact hk)
theorem Shl_i (h : Heap) (a : Sl) (m : Nat) (n : Int) (P : Nat) (hn : n = P) (ha : IsNat h a m) (la : ln 4294967296 m ≤ 17179869184) (hp : P ≤ 549755813888) :
    Fn0 T F.word_Nat_Shl [a.val, .int .i64 n] h fun v h' => ∃ s : Sl, v = s.val ∧ IsNat h' s (m * 2 ^ P) := by
  subst hn; exact Shl_ct h a m P ha la hp
theorem Pow_i (h : Heap) (a : Sl) (A : Nat) (n : Int) (P : Nat) (hn : n = P) (ha : IsNat h a A) (hb : P * ln 4294967296 A ≤ 8589934590) (la : ln 4294967296 A ≤ 8589934592) (hp : P ≤ 65536) :
    Fn0 T F.word_Nat_Pow [a.val, .int .i64 n] h fun v h' => ∃ s : Sl, v = s.val ∧ IsNat h' s (A ^ P) := by
  subst hn; exact Pow_ct h a A P ha hb la hp
theorem Small_i (h : Heap) (n : Int) (P : Nat) (hn : n = P) (hp : P < 18446744073709551616) : Fn0 T F.word_Small [.int .u64 n] h fun v h' => ∃ s' : Sl, v = s'.val ∧ IsNat h' s' P := by
  subst hn; exact Small_ct h P hp
theorem NatOf_j (h : Heap) (n : Int) (P : Nat) (hn : n = P) (hp : P < 18446744073709551616) : Fn0 T F.ref01_NatOf [.int .u64 n] h fun v h' => ∃ s' : Sl, v = s'.val ∧ IsRef h' s' P := by
  subst hn; exact NatOf_ct h P hp
theorem cmpI_eq0 {m n : Nat} : cmpI m n = 0 ↔ m = n := by unfold cmpI; split <;> (try split) <;> omega
theorem cmpI_neg {m n : Nat} (h : cmpI m n < 0) : m < n := by unfold cmpI at h; split at h <;> (try split at h) <;> omega

set_option maxRecDepth 20000 in
set_option maxHeartbeats 1000000 in
theorem Root_ct (h : Heap) (a : Sl) (A n : Nat) (ha : IsNat h a A) (la : ln 4294967296 A ≤ 4096) (hn1 : 2 ≤ n) (hn2 : n ≤ 8) :
    Fn0 T F.word_Nat_Root [a.val, .int .i64 n] h fun v h' => ∃ s : Sl, v = .tuple #[s.val, .bool (dec (rt A n ^ n = A))] ∧ IsNat h' s (rt A n) := by
  have hal := ha.len
  have hz := ln_eq_zero two_le_B (n := A)
  by_cases h00 : A = 0
  · have hz0 := hz.2 h00
    clear hz
    refine fn0_of_codeI ok D.word_Nat_Root rfl ?_
    conv => whnf
    repeat ((first | refine opsI.step ?_ | refine codeI.step ?_); conv => whnf)
    repeat' first
     | ((first | refine opsI.step ?_ | refine codeI.step ?_); conv => whnf)
     | (show cnd _ _ _; first
       | (refine cnd_eq (fun _ => ?_) (fun _ => ?_) <;> first | (exfalso; omega) | (conv => whnf)))
    subst h00
    exact RetN.all ⟨⟨none, 0, 0⟩, by rw [dec_true (by rw [rt_zero, Nat.zero_pow (by omega)])] <;> rfl, by rw [rt_zero]; exact IsNat.nil rfl⟩
  have hz0 : ln 4294967296 A ≠ 0 := fun e => h00 (hz.1 e)
  clear hz
  have hbl : bl A ≤ 131072 := Nat.le_trans (bl_le_ln A) (by omega)
  have hbA := bl_le_iff.1 (Nat.le_refl (bl A))
  obtain ⟨B0, hB0⟩ : ∃ B0, B0 = bl A := ⟨_, rfl⟩
  rw [← hB0] at hbl hbA
  obtain ⟨C, hC⟩ : ∃ C, C = (B0 + n - 1) / n := ⟨_, rfl⟩
  have hCi : ((B0 : Int) + (n : Int) - 1) / (n : Int) = (C : Int) := by
    rw [hC, show (B0 : Int) + (n : Int) - 1 = ((B0 + n - 1 : Nat) : Int) by omega]; rfl
  have hCn : B0 ≤ n * C := by
    have h1 := Nat.div_add_mod (B0 + n - 1) n
    have h2 := Nat.mod_lt (B0 + n - 1) (show n > 0 by omega)
    rw [← hC] at h1
    omega
  have hCb : C ≤ 131080 := by rw [hC]; exact Nat.le_trans (Nat.div_le_self _ _) (by omega)
  have hst : rt A n ≤ 2 ^ (C + 1) := Nat.le_trans (rt_start (by omega) hbA hCn) (Nat.pow_le_pow_right (by decide) (by omega))
  have hl0 := ln_two_pow (C + 1)
  obtain ⟨X0, hX0⟩ : ∃ X0, X0 = 2 ^ (C + 1) := ⟨_, rfl⟩
  have hX0p : 0 < X0 := by rw [hX0]; exact Nat.two_pow_pos _
  rw [← hX0] at hst hl0
  clear hC hCn hbA
  refine fn0_of_codeI ok D.word_Nat_Root rfl ?_
  conv => whnf
  repeat ((first | refine opsI.step ?_ | refine codeI.step ?_); conv => whnf)
  repeat' first
   | (show CallN _ _ _ _ _ _; first
     | (refine CallN.fn rfl (Small_ct _ 1 (by omega)) (fun v h' hl hr => ?_); obtain ⟨s', rfl, hs'⟩ := hr; conv => whnf)
     | (refine CallN.quiet rfl (Bits_ct _ _ A (by (iterate 30 (try first | assumption | refine IsNat.mono ?_ (by assumption))); first | done | assumption) (by omega)) ?_; rw [← hB0]; conv => whnf)
     | (refine CallN.fn rfl (Shl_i _ _ 1 _ (C + 1) (by omega) (by assumption) (by rw [ln_one _ two_le_B]; decide) (by omega)) (fun v h' hl hr => ?_); rw [Nat.one_mul, ← hX0] at hr; obtain ⟨s', rfl, hs'⟩ := hr; conv => whnf))
   | (show QuoN _ _ _ _; first
     | (refine QuoN.i64v (C : Int) (by omega) (by omega) (by omega) hCi ?_; conv => whnf))
   | ((first | refine opsI.step ?_ | refine codeI.step ?_); conv => whnf)
   | (show WrapN _ _ _; first
     | (refine WrapN.i64 (by omega) (by omega) ?_; conv => whnf))
   | (show cnd _ _ _; first
     | (refine cnd_eq (fun _ => ?_) (fun _ => ?_) <;> first | (exfalso; omega) | (conv => whnf)))
  rename_i hx0
  refine LoopN.of (fun r ρ h' L => ∃ xs : Sl, h.le h' ∧ rd ρ 6 = xs.val ∧ IsNat h' xs r ∧ Hq (rt A n ≤ r) ∧ 0 < r ∧ ln 4294967296 r ≤ 131082) X0
    ⟨_, (by (iterate 30 (try first | assumption | refine Heap.le_trans ?_ (by assumption))); first | done | assumption), rfl, (by assumption), ⟨hst⟩, hX0p, by omega⟩ ?_
  clear hz0 hal hx0
  conv => whnf
  repeat intro _
  rename_i X h1 L1 hI
  obtain ⟨xs, hle, e6, hxs, hrX, hXp, hXl⟩ := hI
  conv at e6 => lhs; whnf
  subst e6
  have ha1 := ha.mono hle
  have q1 := ln_pow two_le_B X (n - 1)
  have q2 := ln_pow two_le_B X n
  have r1 : (n - 1) * ln 4294967296 X ≤ 7 * 131082 := Nat.mul_le_mul (by omega) hXl
  have r2 : n * ln 4294967296 X ≤ 8 * 131082 := Nat.mul_le_mul hn2 hXl
  obtain ⟨P1, hP1⟩ : ∃ P1, P1 = X ^ (n - 1) := ⟨_, rfl⟩
  obtain ⟨P2, hP2⟩ : ∃ P2, P2 = X ^ n := ⟨_, rfl⟩
  have hP1p : P1 ≠ 0 := by rw [hP1]; exact Nat.ne_of_gt (Nat.pow_pos hXp)
  rw [← hP1] at q1
  rw [← hP2] at q2
  have q3 := ln_div A P1
  have q4 := ln_mul two_le_B X (n - 1)
  have q5 : ln 4294967296 (n - 1) ≤ 1 := (ln_le_iff two_le_B).2 (by omega)
  obtain ⟨Q1, hQ1⟩ : ∃ Q1, Q1 = A / P1 := ⟨_, rfl⟩
  rw [← hQ1] at q3
  obtain ⟨M1, hM1⟩ : ∃ M1, M1 = X * (n - 1) := ⟨_, rfl⟩
  rw [← hM1] at q4
  have q6 := ln_add two_le_B M1 Q1
  obtain ⟨Y, hY⟩ : ∃ Y, Y = (M1 + Q1) / n := ⟨_, rfl⟩
  have hYn : Y = newt A n X := by rw [hY, hM1, hQ1, hP1]; rfl
  have hYl : Y < X → ln 4294967296 Y ≤ 131082 := fun hh => Nat.le_trans (ln_le_of_le (Nat.le_of_lt hh)) hXl
  have hYr : rt A n ≤ Y := by rw [hYn]; exact rt_newt (by omega) hXp
  have hstop : X ≤ Y → X = rt A n := fun hh => newt_stop (by omega) hXp (by rw [← hYn]; exact hh) hrX.out
  have hYp : 0 < Y := Nat.lt_of_lt_of_le (rt_pos (by omega) h00) hYr
  have hYb : ln 4294967296 Y ≤ 1048576 := by rw [hY]; exact Nat.le_trans (ln_div _ _) (by omega)
  replace hYr := Hq.mk hYr
  replace hstop := Hq.mk hstop
  clear hYn hrX ha
  conv => whnf
  repeat ((first | refine opsI.step ?_ | refine codeI.step ?_); conv => whnf)
  repeat' first
   | (show CallN _ _ _ _ _ _; first
     | (refine CallN.fn rfl (Pow_i _ _ X _ (n - 1) (by omega) (by assumption) (by omega) (by omega) (by omega)) (fun v h' hl hr => ?_); rw [← hP1] at hr; obtain ⟨s', rfl, hs'⟩ := hr; conv => whnf)
     | (refine CallN.fn rfl (Pow_i _ _ X _ n rfl (by (iterate 30 (try first | assumption | refine IsNat.mono ?_ (by assumption))); first | done | assumption) (by omega) (by omega) (by omega)) (fun v h' hl hr => ?_); rw [← hP2] at hr; obtain ⟨s', rfl, hs'⟩ := hr; conv => whnf)
     | (refine CallN.fn rfl (Div_ct _ _ _ A P1 (by (iterate 30 (try first | assumption | refine IsNat.mono ?_ (by assumption))); first | done | assumption) (by assumption) (by omega) (by omega) hP1p) (fun v h' hl hr => ?_); rw [← hQ1] at hr; obtain ⟨q', r', rfl, hq', hr'⟩ := hr; conv => whnf)
     | (refine CallN.fn rfl (Small_i _ _ (n - 1) (by omega) (by omega)) (fun v h' hl hr => ?_); obtain ⟨s', rfl, hs'⟩ := hr; conv => whnf)
     | (refine CallN.fn rfl (Mul_ct _ _ _ X (n - 1) (by (iterate 30 (try first | assumption | refine IsNat.mono ?_ (by assumption))); first | done | assumption) (by assumption) (by omega) (by omega)) (fun v h' hl hr => ?_); rw [← hM1] at hr; obtain ⟨s', rfl, hs'⟩ := hr; conv => whnf)
     | (refine CallN.fn rfl (Add_ct _ _ _ M1 Q1 (by assumption) (by (iterate 30 (try first | assumption | refine IsNat.mono ?_ (by assumption))); first | done | assumption) (by omega) (by omega)) (fun v h' hl hr => ?_); obtain ⟨s', rfl, hs'⟩ := hr; conv => whnf)
     | (refine CallN.fn rfl (DivSmall_ct _ _ (M1 + Q1) n (by assumption) (by omega) (by omega) (by omega)) (fun v h' hl hr => ?_); rw [← hY] at hr; obtain ⟨s', rfl, hs'⟩ := hr; conv => whnf)
     | (refine CallN.quiet rfl (Cmp_ct _ _ _ Y X (by (iterate 30 (try first | assumption | refine IsNat.mono ?_ (by assumption))); first | done | assumption) (by (iterate 30 (try first | assumption | refine IsNat.mono ?_ (by assumption))); first | done | assumption) (by omega) (by omega)) ?_; conv => whnf)
     | (refine CallN.quiet rfl (Cmp_ct _ _ _ P2 A (by assumption) (by (iterate 30 (try first | assumption | refine IsNat.mono ?_ (by assumption))); first | done | assumption) (by omega) (by omega)) ?_; conv => whnf))
   | ((first | refine opsI.step ?_ | refine codeI.step ?_); conv => whnf)
   | (show WrapN _ _ _; first
     | (refine WrapN.i64 (by omega) (by omega) ?_; conv => whnf)
     | (refine WrapN.u64 (by omega) (by omega) ?_; conv => whnf)
     | (refine WrapN.u32 (by omega) (by omega) ?_; conv => whnf))
   | (show cnd _ _ _; first
     | (refine cnd_le (fun _ => ?_) (fun _ => ?_) <;> first | (exfalso; omega) | (conv => whnf)))
  · have hc : X ≤ Y := cmp_le (by assumption)
    have hXr := hstop.out hc
    refine RetN.all ⟨xs, ?_, by rw [← hXr]; exact (by (iterate 30 (try first | assumption | refine IsNat.mono ?_ (by assumption))); first | done | assumption)⟩
    by_cases hp : rt A n ^ n = A
    · rw [dec_true hp, Vc.eq_true' (cmpI_eq0.2 (by rw [hP2, hXr]; exact hp))]
    · rw [dec_false hp, Vc.eq_false' (fun e => hp (by rw [← hXr, ← hP2]; exact cmpI_eq0.1 e))]
  · have hc : Y < X := cmpI_neg (by assumption)
    exact ⟨rfl, Y, hc, _, (by (iterate 30 (try first | assumption | refine Heap.le_trans ?_ (by assumption))); first | done | assumption), rfl, (by assumption), hYr, hYp, hYl hc⟩

set_option maxRecDepth 20000 in
set_option maxHeartbeats 1000000 in
theorem NatRoot_ct (h : Heap) (a : Sl) (A n : Nat) (ha : IsRef h a A) (la : ln 4294967296 A ≤ 4096) (hn1 : 2 ≤ n) (hn2 : n ≤ 8) :
    Fn0 T F.ref01_NatRoot [a.val, .int .i64 n] h fun v h' => ∃ s : Sl, v = s.val ∧ IsRef h' s (rt A n) := by
  have hal := ha.len
  have hz := ln_eq_zero two_le_b (n := A)
  have lb := lb_le A
  by_cases h00 : A = 0
  · have hz0 := hz.2 h00
    clear hz
    refine fn0_of_codeI ok D.ref01_NatRoot rfl ?_
    conv => whnf
    repeat ((first | refine opsI.step ?_ | refine codeI.step ?_); conv => whnf)
    repeat' first
     | ((first | refine opsI.step ?_ | refine codeI.step ?_); conv => whnf)
     | (show cnd _ _ _; first
       | (refine cnd_eq (fun _ => ?_) (fun _ => ?_) <;> first | (exfalso; omega) | (conv => whnf)))
    subst h00
    exact RetN.all ⟨⟨none, 0, 0⟩, rfl, by rw [rt_zero]; exact IsRef.nil rfl⟩
  have hz0 : ln 65536 A ≠ 0 := fun e => h00 (hz.1 e)
  clear hz
  have hbl : bl A ≤ 131072 := Nat.le_trans (bl_le_ln A) (by omega)
  have hbA := bl_le_iff.1 (Nat.le_refl (bl A))
  obtain ⟨B0, hB0⟩ : ∃ B0, B0 = bl A := ⟨_, rfl⟩
  rw [← hB0] at hbl hbA
  obtain ⟨C, hC⟩ : ∃ C, C = (B0 + n - 1) / n := ⟨_, rfl⟩
  have hCi : ((B0 : Int) + (n : Int) - 1) / (n : Int) = (C : Int) := by
    rw [hC, show (B0 : Int) + (n : Int) - 1 = ((B0 + n - 1 : Nat) : Int) by omega]; rfl
  have hCn : B0 ≤ n * C := by
    have h1 := Nat.div_add_mod (B0 + n - 1) n
    have h2 := Nat.mod_lt (B0 + n - 1) (show n > 0 by omega)
    rw [← hC] at h1
    omega
  have hCb : C ≤ 131080 := by rw [hC]; exact Nat.le_trans (Nat.div_le_self _ _) (by omega)
  have hst : rt A n ≤ 2 ^ C := rt_start (by omega) hbA hCn
  have hl0 := lb_two_pow C
  obtain ⟨X0, hX0⟩ : ∃ X0, X0 = 2 ^ C := ⟨_, rfl⟩
  have hX0p : 0 < X0 := by rw [hX0]; exact Nat.two_pow_pos _
  rw [← hX0] at hst hl0
  clear hC hCn hbA
  refine fn0_of_codeI ok D.ref01_NatRoot rfl ?_
  conv => whnf
  repeat ((first | refine opsI.step ?_ | refine codeI.step ?_); conv => whnf)
  repeat' first
   | (show CallN _ _ _ _ _ _; first
     | (refine CallN.fn rfl (NatOf_ct _ 1 (by omega)) (fun v h' hl hr => ?_); obtain ⟨s', rfl, hs'⟩ := hr; conv => whnf)
     | (refine CallN.quiet rfl (NatBits_ct _ _ A (by (iterate 30 (try first | assumption | refine IsRef.mono ?_ (by assumption))); first | done | assumption) (by omega)) ?_; rw [← hB0]; conv => whnf)
     | (refine CallN.fn rfl (NatShl_i _ _ 1 _ C (by omega) (by assumption) (by rw [ln_one _ two_le_b]; decide) (by omega)) (fun v h' hl hr => ?_); rw [Nat.one_mul, ← hX0] at hr; obtain ⟨s', rfl, hs'⟩ := hr; conv => whnf))
   | (show QuoN _ _ _ _; first
     | (refine QuoN.i64v (C : Int) (by omega) (by omega) (by omega) hCi ?_; conv => whnf))
   | ((first | refine opsI.step ?_ | refine codeI.step ?_); conv => whnf)
   | (show WrapN _ _ _; first
     | (refine WrapN.i64 (by omega) (by omega) ?_; conv => whnf))
   | (show cnd _ _ _; first
     | (refine cnd_lt (fun _ => ?_) (fun _ => ?_) <;> first | (exfalso; omega) | (conv => whnf))
     | (refine cnd_eq (fun _ => ?_) (fun _ => ?_) <;> first | (exfalso; omega) | (conv => whnf)))
  rename_i hx0
  refine LoopN.of (fun r ρ h' L => ∃ xs : Sl, h.le h' ∧ rd ρ 5 = xs.val ∧ IsRef h' xs r ∧ Hq (rt A n ≤ r) ∧ 0 < r ∧ ln 65536 r ≤ 131082) X0
    ⟨_, (by (iterate 30 (try first | assumption | refine Heap.le_trans ?_ (by assumption))); first | done | assumption), rfl, (by assumption), ⟨hst⟩, hX0p, by omega⟩ ?_
  clear hz0 hal hx0
  conv => whnf
  repeat intro _
  rename_i X h1 L1 hI
  obtain ⟨xs, hle, e5, hxs, hrX, hXp, hXl⟩ := hI
  conv at e5 => lhs; whnf
  subst e5
  have ha1 := ha.mono hle
  have q1 := ln_pow two_le_b X (n - 1)
  have r1 : (n - 1) * ln 65536 X ≤ 7 * 131082 := Nat.mul_le_mul (by omega) hXl
  obtain ⟨P1, hP1⟩ : ∃ P1, P1 = X ^ (n - 1) := ⟨_, rfl⟩
  have hP1p : P1 ≠ 0 := by rw [hP1]; exact Nat.ne_of_gt (Nat.pow_pos hXp)
  rw [← hP1] at q1
  have q3 := ln_mono two_le_b (Nat.div_le_self A P1)
  have q4 := ln_mul two_le_b X (n - 1)
  have q5 : ln 65536 (n - 1) ≤ 1 := (ln_le_iff two_le_b).2 (by omega)
  have q7 : ln 65536 n ≤ 1 := (ln_le_iff two_le_b).2 (by omega)
  obtain ⟨Q1, hQ1⟩ : ∃ Q1, Q1 = A / P1 := ⟨_, rfl⟩
  rw [← hQ1] at q3
  obtain ⟨M1, hM1⟩ : ∃ M1, M1 = X * (n - 1) := ⟨_, rfl⟩
  rw [← hM1] at q4
  have q6 := ln_add two_le_b M1 Q1
  obtain ⟨Y, hY⟩ : ∃ Y, Y = (M1 + Q1) / n := ⟨_, rfl⟩
  have hYn : Y = newt A n X := by rw [hY, hM1, hQ1, hP1]; rfl
  have hYl : Y < X → ln 65536 Y ≤ 131082 := fun hh => Nat.le_trans (ln_mono two_le_b (Nat.le_of_lt hh)) hXl
  have hYr : rt A n ≤ Y := by rw [hYn]; exact rt_newt (by omega) hXp
  have hstop : X ≤ Y → X = rt A n := fun hh => newt_stop (by omega) hXp (by rw [← hYn]; exact hh) hrX.out
  have hYp : 0 < Y := Nat.lt_of_lt_of_le (rt_pos (by omega) h00) hYr
  have hYb : ln 65536 Y ≤ 1048576 := by rw [hY]; exact Nat.le_trans (ln_mono two_le_b (Nat.div_le_self _ _)) (by omega)
  replace hYr := Hq.mk hYr
  replace hstop := Hq.mk hstop
  clear hYn hrX ha
  conv => whnf
  repeat ((first | refine opsI.step ?_ | refine codeI.step ?_); conv => whnf)
  repeat' first
   | (show CallN _ _ _ _ _ _; first
     | (refine CallN.fn rfl (NatPow_i _ _ X _ (n - 1) (by omega) (by assumption) (by omega) (by omega) (by omega)) (fun v h' hl hr => ?_); rw [← hP1] at hr; obtain ⟨s', rfl, hs'⟩ := hr; conv => whnf)
     | (refine CallN.fn rfl (NatDiv_ct _ _ _ A P1 (by (iterate 30 (try first | assumption | refine IsRef.mono ?_ (by assumption))); first | done | assumption) (by assumption) (by omega) (by omega) hP1p) (fun v h' hl hr => ?_); rw [← hQ1] at hr; obtain ⟨q', r', rfl, hq', hr'⟩ := hr; conv => whnf)
     | (refine CallN.fn rfl (NatOf_j _ _ (n - 1) (by omega) (by omega)) (fun v h' hl hr => ?_); obtain ⟨s', rfl, hs'⟩ := hr; conv => whnf)
     | (refine CallN.fn rfl (NatOf_j _ _ n (by omega) (by omega)) (fun v h' hl hr => ?_); obtain ⟨s', rfl, hs'⟩ := hr; conv => whnf)
     | (refine CallN.fn rfl (NatMul_ct _ _ _ X (n - 1) (by (iterate 30 (try first | assumption | refine IsRef.mono ?_ (by assumption))); first | done | assumption) (by assumption) (by omega) (by omega)) (fun v h' hl hr => ?_); rw [← hM1] at hr; obtain ⟨s', rfl, hs'⟩ := hr; conv => whnf)
     | (refine CallN.fn rfl (NatAdd_ct _ _ _ M1 Q1 (by assumption) (by (iterate 30 (try first | assumption | refine IsRef.mono ?_ (by assumption))); first | done | assumption) (by omega) (by omega)) (fun v h' hl hr => ?_); obtain ⟨s', rfl, hs'⟩ := hr; conv => whnf)
     | (refine CallN.fn rfl (NatDiv_ct _ _ _ (M1 + Q1) n (by (iterate 30 (try first | assumption | refine IsRef.mono ?_ (by assumption))); first | done | assumption) (by assumption) (by omega) (by omega) (by omega)) (fun v h' hl hr => ?_); rw [← hY] at hr; obtain ⟨q', r', rfl, hq', hr'⟩ := hr; conv => whnf)
     | (refine CallN.quiet rfl (NatCmp_ct _ _ _ Y X (by assumption) (by (iterate 30 (try first | assumption | refine IsRef.mono ?_ (by assumption))); first | done | assumption) (by omega) (by omega)) ?_; conv => whnf))
   | ((first | refine opsI.step ?_ | refine codeI.step ?_); conv => whnf)
   | (show WrapN _ _ _; first
     | (refine WrapN.i64 (by omega) (by omega) ?_; conv => whnf)
     | (refine WrapN.u64 (by omega) (by omega) ?_; conv => whnf))
   | (show cnd _ _ _; first
     | (refine cnd_le (fun _ => ?_) (fun _ => ?_) <;> first | (exfalso; omega) | (conv => whnf)))
  · have hc : X ≤ Y := cmp_le (by assumption)
    have hXr := hstop.out hc
    exact RetN.all ⟨xs, rfl, by rw [← hXr]; exact (by (iterate 30 (try first | assumption | refine IsRef.mono ?_ (by assumption))); first | done | assumption)⟩
  · have hc : Y < X := cmpI_neg (by assumption)
    exact ⟨rfl, Y, hc, _, (by (iterate 30 (try first | assumption | refine Heap.le_trans ?_ (by assumption))); first | done | assumption), rfl, (by assumption), hYr, hYp, hYl hc⟩
end Go.Proofs.YteblflmnhegmjaaDoor
