/- The number of decimal digits, and of a text. -/
import Derived.Test.YteblflmnhegmjaaDoorP1
set_option linter.unusedVariables false
set_option linter.unusedSimpArgs false
namespace Go.Proofs.YteblflmnhegmjaaDoor
open Go Go.Vc Go.Dig
set_option maxRecDepth 20000 in
set_option maxHeartbeats 2000000 in
theorem natural_ct (h : Heap) (l : List Nat) (hb : ∀ c ∈ l, dgt c = true) (hl : l.length ≤ 65536) : Fn0 T F.number_natural [.string (txt l)] h fun v h' => ∃ s : Sl, v = s.val ∧ IsNat h' s (natL l) := by
  have hz := txt_size l
  have hb8 : ∀ y ∈ l, y < 256 := fun y hy => by have := dgt_iff.1 (hb y hy); omega
  refine fn0_of_codeI ok D.number_natural rfl ?_
  conv => whnf
  repeat ((first | refine opsI.step ?_ | refine codeI.step ?_); conv => whnf)
  skip
  refine LoopN.of (fun r ρ h' L => ∃ (k : Nat) (a : Sl), r = l.length - k ∧ h.le h' ∧ rd ρ 4 = .int .i64 k ∧ k ≤ l.length ∧ rd ρ 3 = a.val ∧ IsNat h' a (natL (l.take k))) l.length
    ⟨0, ⟨none, 0, 0⟩, rfl, Heap.le_refl _, vi (by omega), by omega, rfl, (IsNat.nil rfl : IsNat h ⟨none, 0, 0⟩ 0)⟩ ?_
  conv => whnf
  repeat intro _
  rename_i r h1 L1 hI
  obtain ⟨k, a, rfl, hle, e4, hk, e3, ha⟩ := hI
  conv at e3 => lhs; whnf
  subst e3
  conv at e4 => lhs; whnf
  subst e4
  have lk : ln 4294967296 (natL (l.take k)) ≤ 65536 := Nat.le_trans (natL_ln fun c hc => hb c (List.mem_of_mem_take hc)) (by simp; omega)
  by_cases hc : k < l.length
  · obtain ⟨e, he⟩ : ∃ e, e = min l.length (k + 9) := ⟨_, rfl⟩
    have he1 : e ≤ l.length := by omega
    have he2 : k < e := by omega
    have he3 : e ≤ k + 9 := by omega
    have hmm : mm false ((txt l).size : Int) ((k : Int) + 9) = (e : Int) := by unfold mm; simp only [Bool.false_eq_true, if_false]; split <;> omega
    conv => whnf
    repeat ((first | refine opsI.step ?_ | refine codeI.step ?_); conv => whnf)
    repeat' first
     | ((first | refine opsI.step ?_ | refine codeI.step ?_); conv => whnf)
     | (show WrapN _ _ _; first
       | (refine WrapN.i64 (by omega) (by omega) ?_; conv => whnf))
     | (show cnd _ _ _; first
       | (refine cnd_lt (fun _ => ?_) (fun _ => ?_) <;> first | (exfalso; omega) | (conv => whnf)))
    refine LoopN.of (fun r ρ h' L => ∃ (i N t : Nat), r = e - i ∧ h1.le h' ∧ rd ρ 4 = .int .i64 i ∧ k ≤ i ∧ i ≤ e ∧ rd ρ 6 = .int .u64 N ∧ rd ρ 7 = .int .u64 t ∧ N < 1000000000 ∧ t ≤ 1000000000 ∧ Hq (N = natL ((l.take i).drop k)) ∧ Hq (t = 10 ^ (i - k))) (e - k)
      ⟨k, 0, 1, rfl, Heap.le_refl _, rfl, Nat.le_refl _, by omega, rfl, rfl, by omega, by omega, ⟨by rw [List.drop_take, Nat.sub_self, List.take_zero]; exact natL_nil.symm⟩, ⟨by rw [Nat.sub_self, Nat.pow_zero]⟩⟩ ?_
    conv => whnf
    repeat intro _
    rename_i r h2 L2 hJ
    obtain ⟨i, N, t, rfl, hle2, e4, hi1, hi2, e6, e7, hN, ht, hN', ht'⟩ := hJ
    conv at e4 => lhs; whnf
    subst e4
    conv at e6 => lhs; whnf
    subst e6
    conv at e7 => lhs; whnf
    subst e7
    by_cases hie : i < e
    · have hd := dgt_iff.1 (hb (l.getD i 0) (by simp [List.getD_eq_getElem?_getD, show i < l.length by omega]))
      obtain ⟨c, hc'⟩ : ∃ c, c = l.getD i 0 := ⟨_, rfl⟩
      have s1 : 10 * N + (c - 48) = natL ((l.take (i + 1)).drop k) := by rw [take_step hi1 (by omega), natL_snoc, ← hN'.out, hc']
      have s2 : 10 * t = 10 ^ (i + 1 - k) := by rw [show i + 1 - k = (i - k) + 1 by omega, Nat.pow_succ, ← ht'.out, Nat.mul_comm]
      have s3 : 10 * N + (c - 48) < 1000000000 := by
        rw [s1]
        refine Nat.lt_of_lt_of_le (natL_lt fun c hc => hb c (List.mem_of_mem_take (List.mem_of_mem_drop hc))) ?_
        refine Nat.le_trans (Nat.pow_le_pow_right (by decide) (show _ ≤ 9 by simp; omega)) (by decide)
      have s4 : 10 * t ≤ 1000000000 := by
        rw [s2]
        exact Nat.le_trans (Nat.pow_le_pow_right (by decide) (show _ ≤ 9 by omega)) (by decide)
      replace s1 := Hq.mk s1
      replace s2 := Hq.mk s2
      rw [← hc'] at hd
      conv => whnf
      repeat ((first | refine opsI.step ?_ | refine codeI.step ?_); conv => whnf)
      repeat' first
       | (show IdxS _ _ _; first
         | (refine IdxS.txt l rfl hb8 i (by omega) (by omega) ?_; rw [← hc']; conv => whnf))
       | ((first | refine opsI.step ?_ | refine codeI.step ?_); conv => whnf)
       | (show WrapN _ _ _; first
         | (refine WrapN.i64 (by omega) (by omega) ?_; conv => whnf)
         | (refine WrapN.u64 (by omega) (by omega) ?_; conv => whnf)
         | (refine WrapN.u8 (by omega) (by omega) ?_; conv => whnf))
       | (show cnd _ _ _; first
         | (refine cnd_lt (fun _ => ?_) (fun _ => ?_) <;> first | (exfalso; omega) | (conv => whnf)))
      all_goals exact ⟨rfl, e - (i + 1), by omega, i + 1, 10 * N + (c - 48), 10 * t, rfl, (by assumption), vi (by omega), by omega, by omega, vi (by omega), vi (by omega), s3, s4, s1, s2⟩
    · obtain rfl : i = e := by omega
      have s5 : natL (l.take k) * t + N = natL (l.take i) := by
        rw [take_two (l := l) (show k ≤ i by omega), natL_append, ← hN'.out, ht'.out]
        congr 3
        simp; omega
      have lt := ln_mul two_le_B (natL (l.take k)) t
      have l1 : ln 4294967296 t ≤ 2 := by rw [ln_le_iff two_le_B]; exact Nat.lt_of_le_of_lt ht (by decide)
      have l2 : ln 4294967296 N ≤ 2 := by rw [ln_le_iff two_le_B]; exact Nat.lt_trans hN (by decide)
      obtain ⟨X, hX⟩ : ∃ X, X = natL (l.take k) := ⟨_, rfl⟩
      rw [← hX] at lk ha s5 lt
      obtain ⟨Y, hY⟩ : ∃ Y, Y = X * t := ⟨_, rfl⟩
      rw [← hY] at s5 lt
      replace s5 := Hq.mk s5
      conv => whnf
      repeat ((first | refine opsI.step ?_ | refine codeI.step ?_); conv => whnf)
      repeat' first
       | (show CallN _ _ _ _ _ _; first
         | (refine CallN.fn rfl (Small_ct _ t (by omega)) (fun v h' hl hr => ?_); obtain ⟨s', rfl, hs'⟩ := hr; conv => whnf)
         | (refine CallN.fn rfl (Small_ct _ N (by omega)) (fun v h' hl hr => ?_); obtain ⟨s', rfl, hs'⟩ := hr; conv => whnf)
         | (refine CallN.fn rfl (Mul_ct _ _ _ X t (by (iterate 30 (try first | assumption | refine IsNat.mono ?_ (by assumption))); first | done | assumption) (by assumption) (by omega) (by omega)) (fun v h' hl hr => ?_); rw [← hY] at hr; obtain ⟨s', rfl, hs'⟩ := hr; conv => whnf)
         | (refine CallN.fn rfl (Add_ct _ _ _ Y N (by (iterate 30 (try first | assumption | refine IsNat.mono ?_ (by assumption))); first | done | assumption) (by assumption) (by omega) (by omega)) (fun v h' hl hr => ?_); rw [s5.out] at hr; obtain ⟨s', rfl, hs'⟩ := hr; conv => whnf))
       | ((first | refine opsI.step ?_ | refine codeI.step ?_); conv => whnf)
       | (show cnd _ _ _; first
         | (refine cnd_lt (fun _ => ?_) (fun _ => ?_) <;> first | (exfalso; omega) | (conv => whnf)))
      all_goals exact ⟨rfl, l.length - i, by omega, i, _, rfl, (by (iterate 30 (try first | assumption | refine Heap.le_trans ?_ (by assumption))); first | done | assumption), rfl, by omega, rfl, (by assumption)⟩
  · obtain rfl : k = l.length := by omega
    rw [List.take_length] at ha
    conv => whnf
    repeat ((first | refine opsI.step ?_ | refine codeI.step ?_); conv => whnf)
    repeat' first
     | ((first | refine opsI.step ?_ | refine codeI.step ?_); conv => whnf)
     | (show cnd _ _ _; first
       | (refine cnd_lt (fun _ => ?_) (fun _ => ?_) <;> first | (exfalso; omega) | (conv => whnf)))
    exact RetN.all ⟨_, rfl, (by assumption)⟩
end Go.Proofs.YteblflmnhegmjaaDoor
