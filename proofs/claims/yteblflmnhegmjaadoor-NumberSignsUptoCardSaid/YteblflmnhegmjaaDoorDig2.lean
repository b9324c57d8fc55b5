/- Binary digits and shifts of natural numbers: plain mathematics, no program. -/
import Derived.Test.YteblflmnhegmjaaDoorDig
set_option linter.unusedVariables false
set_option linter.unusedSimpArgs false
namespace Go.Dig

/-- the number of binary digits -/
def bl (n : Nat) : Nat := if n = 0 then 0 else Nat.log2 n + 1
theorem bl_zero : bl 0 = 0 := rfl
theorem bl_pos {n : Nat} (h : n ≠ 0) : bl n = Nat.log2 n + 1 := by simp [bl, h]
theorem bl_le_iff {n k : Nat} : bl n ≤ k ↔ n < 2 ^ k := by
  by_cases h : n = 0
  · subst h; simp [bl_zero, Nat.two_pow_pos]
  · rw [bl_pos h, Nat.succ_le_iff, Nat.log2_lt h]
theorem bl_unique {n k : Nat} (h1 : 2 ^ k ≤ n) (h2 : n < 2 ^ (k + 1)) : bl n = k + 1 := by
  have a := bl_le_iff.2 h2
  have b : ¬ bl n ≤ k := fun h => by have := bl_le_iff.1 h; omega
  omega
theorem lt_bl (n : Nat) : n < 2 ^ bl n := bl_le_iff.1 (Nat.le_refl _)
theorem le_bl {n : Nat} (h : n ≠ 0) : 2 ^ (bl n - 1) ≤ n := by
  rcases Nat.lt_or_ge n (2 ^ (bl n - 1)) with h' | h'
  · have := bl_le_iff.2 h'
    rw [bl_pos h] at this
    omega
  · exact h'
theorem bl_div {n k : Nat} (h : 2 ^ k ≤ n) : bl n = k + bl (n / 2 ^ k) := by
  have hn : n ≠ 0 := by have := Nat.two_pow_pos k; omega
  have hd : n / 2 ^ k ≠ 0 := by
    have := Nat.div_pos h (Nat.two_pow_pos k); omega
  have h1 := lt_bl (n / 2 ^ k)
  have h2 := le_bl hd
  have hb : bl (n / 2 ^ k) = (bl (n / 2 ^ k) - 1) + 1 := by rw [bl_pos hd]; omega
  have e1 : n < 2 ^ (k + bl (n / 2 ^ k)) := by
    rw [Nat.pow_add, Nat.mul_comm]; exact (Nat.div_lt_iff_lt_mul (Nat.two_pow_pos k)).1 h1
  have e2 : 2 ^ (k + (bl (n / 2 ^ k) - 1)) ≤ n := by
    rw [Nat.pow_add, Nat.mul_comm]; exact (Nat.le_div_iff_mul_le (Nat.two_pow_pos k)).1 h2
  have := bl_unique (k := k + (bl (n / 2 ^ k) - 1)) e2 (by rw [show k + (bl (n / 2 ^ k) - 1) + 1 = k + bl (n / 2 ^ k) by omega]; exact e1)
  omega
/-- the number of binary digits by the digits to a base that is a power of 2 -/
theorem bl_dg {p n : Nat} (hp : 1 ≤ p) (hn : n ≠ 0) : bl n = p * (ln (2 ^ p) n - 1) + bl ((dg (2 ^ p) n).getD (ln (2 ^ p) n - 1) 0) := by
  have hb : 2 ≤ 2 ^ p := by have : 2 ^ 1 ≤ 2 ^ p := Nat.pow_le_pow_right (by omega) hp; omega
  induction n using Nat.strongRecOn with
  | _ n ih =>
    by_cases hq : n / 2 ^ p = 0
    · have e : dg (2 ^ p) n = [n % 2 ^ p] := by rw [dg_pos hb hn, hq, dg_zero]
      have hl : ln (2 ^ p) n = 1 := by unfold ln; rw [e]; rfl
      have hlt : n < 2 ^ p := by
        rcases Nat.lt_or_ge n (2 ^ p) with h | h
        · exact h
        · have := Nat.div_pos h (by omega); omega
      rw [hl, e]; simp [Nat.mod_eq_of_lt hlt]
    · have h1 := ih _ (div_lt hb hn) hq
      have h2 := ln_pos hb hn
      have h3 : ln (2 ^ p) (n / 2 ^ p) ≠ 0 := fun h => hq ((ln_eq_zero hb).1 h)
      have hge : 2 ^ p ≤ n := by
        rcases Nat.lt_or_ge n (2 ^ p) with h | h
        · exact (hq (Nat.div_eq_of_lt h)).elim
        · exact h
      rw [bl_div hge, h1, h2]
      have e : (dg (2 ^ p) n).getD (ln (2 ^ p) (n / 2 ^ p) + 1 - 1) 0 = (dg (2 ^ p) (n / 2 ^ p)).getD (ln (2 ^ p) (n / 2 ^ p) - 1) 0 := by
        rw [dg_pos hb hn, show ln (2 ^ p) (n / 2 ^ p) + 1 - 1 = (ln (2 ^ p) (n / 2 ^ p) - 1) + 1 by omega, List.getD_cons_succ]
      rw [e]
      have : p * (ln (2 ^ p) (n / 2 ^ p) + 1 - 1) = p * (ln (2 ^ p) (n / 2 ^ p) - 1) + p := by
        rw [show ln (2 ^ p) (n / 2 ^ p) + 1 - 1 = (ln (2 ^ p) (n / 2 ^ p) - 1) + 1 by omega, Nat.mul_add, Nat.mul_one]
      omega

/-- digit number k -/
theorem dg_getD {b : Nat} (hb : 2 ≤ b) : ∀ (k n : Nat), (dg b n).getD k 0 = n / b ^ k % b
  | 0, n => by
    by_cases hn : n = 0
    · subst hn; simp [dg_zero]
    · rw [dg_pos hb hn]; simp
  | k + 1, n => by
    by_cases hn : n = 0
    · subst hn; simp [dg_zero]
    · rw [dg_pos hb hn, List.getD_cons_succ, dg_getD hb k, Nat.div_div_eq_div_mul, Nat.pow_succ, Nat.mul_comm b]
/-- a list whose entries are the digits of a number denotes the number, as far as it goes -/
theorem evl_digits {b : Nat} (hb : 2 ≤ b) {N : Nat} : ∀ {l : List Nat} {s : Nat}, (∀ i, i < l.length → l.getD i 0 = N / b ^ (s + i) % b) → evl b l = N / b ^ s % b ^ l.length
  | [], s, _ => by rw [evl_nil]; simp [Nat.mod_one]
  | x :: l, s, h => by
    have h0 := h 0 (by simp)
    have ih := evl_digits hb (N := N) (l := l) (s := s + 1) (fun i hi => by have := h (i + 1) (by simpa using hi); rw [List.getD_cons_succ] at this; rw [this]; congr 3; omega)
    simp only [List.getD_cons_zero, Nat.add_zero] at h0
    have e : b ^ (l.length + 1) = b * b ^ l.length := by rw [Nat.pow_succ, Nat.mul_comm]
    rw [evl_cons, ih, h0, List.length_cons, e, Nat.mod_mul, Nat.pow_succ, Nat.div_div_eq_div_mul]

/-- the exponent of 2 in a number -/
def twF : Nat → Nat → Nat
  | 0, _ => 0
  | f + 1, n => if n % 2 = 1 then 0 else twF f (n / 2) + 1
def tw (n : Nat) : Nat := if n = 0 then 0 else twF n n
theorem twF_spec : ∀ (f n : Nat), n ≤ f → n ≠ 0 → ∃ m, n = 2 ^ twF f n * (2 * m + 1)
  | 0, n, h, h0 => by omega
  | f + 1, n, h, h0 => by
    simp only [twF]
    split
    · rename_i ho
      exact ⟨n / 2, by omega⟩
    · rename_i ho
      obtain ⟨m, hm⟩ := twF_spec f (n / 2) (by omega) (by omega)
      refine ⟨m, ?_⟩
      rw [Nat.pow_succ, Nat.mul_comm _ 2, Nat.mul_assoc, ← hm]
      omega
theorem tw_spec {n : Nat} (h : n ≠ 0) : ∃ m, n = 2 ^ tw n * (2 * m + 1) := by
  unfold tw; rw [if_neg h]; exact twF_spec n n (Nat.le_refl _) h
theorem odd_unique : ∀ {a b m m' : Nat}, 2 ^ a * (2 * m + 1) = 2 ^ b * (2 * m' + 1) → a = b ∧ m = m'
  | 0, 0, m, m', h => by simp at h; exact ⟨rfl, by omega⟩
  | 0, b + 1, m, m', h => by
    rw [Nat.pow_succ, Nat.mul_comm _ 2, Nat.mul_assoc] at h
    simp at h
    omega
  | a + 1, 0, m, m', h => by
    rw [Nat.pow_succ, Nat.mul_comm _ 2, Nat.mul_assoc] at h
    simp at h
    omega
  | a + 1, b + 1, m, m', h => by
    rw [Nat.pow_succ, Nat.pow_succ, Nat.mul_comm _ 2, Nat.mul_comm _ 2, Nat.mul_assoc, Nat.mul_assoc] at h
    have := odd_unique (a := a) (b := b) (m := m) (m' := m') (by omega)
    exact ⟨by omega, this.2⟩
theorem tw_unique {n k m : Nat} (h : n = 2 ^ k * (2 * m + 1)) : tw n = k := by
  have hn : n ≠ 0 := by rw [h]; exact Nat.mul_ne_zero (by have := Nat.two_pow_pos k; omega) (by omega)
  obtain ⟨m', h'⟩ := tw_spec hn
  exact (odd_unique (h'.symm.trans h)).1
theorem tw_le {n k : Nat} (h : n ≠ 0) : k ≤ tw n ↔ 2 ^ k ∣ n := by
  obtain ⟨m, hm⟩ := tw_spec h
  constructor
  · intro hk
    rw [hm, show tw n = k + (tw n - k) by omega, Nat.pow_add, Nat.mul_assoc]
    exact Nat.dvd_mul_right _ _
  · rintro ⟨q, hq⟩
    rcases Nat.lt_or_ge (tw n) k with hlt | hge
    · exfalso
      have hq0 : q ≠ 0 := fun e => by subst e; simp at hq; exact h hq
      obtain ⟨m', hm'⟩ := tw_spec hq0
      have : n = 2 ^ (k + tw q) * (2 * m' + 1) := by rw [Nat.pow_add, Nat.mul_assoc, ← hm', ← hq]
      have := tw_unique this
      omega
    · exact hge

/-- the exponent of 2, word by word -/
theorem tw_word {n k w r : Nat} (h : n = 2 ^ (32 * k) * (w + 2 ^ 32 * r)) (hw : w < 2 ^ 32) (h0 : w ≠ 0) : tw n = 32 * k + tw w := by
  obtain ⟨m, hm⟩ := tw_spec h0
  have hk : tw w < 32 := by
    rcases Nat.lt_or_ge (tw w) 32 with hh | hh
    · exact hh
    · have := Nat.pow_le_pow_right (n := 2) (by omega) hh
      have : 2 ^ tw w * 1 ≤ 2 ^ tw w * (2 * m + 1) := Nat.mul_le_mul_left _ (by omega)
      omega
  refine tw_unique (m := m + 2 ^ (31 - tw w) * r) ?_
  have e : (2 : Nat) ^ 32 = 2 ^ tw w * (2 * 2 ^ (31 - tw w)) := by
    rw [← Nat.pow_succ', ← Nat.pow_add]; congr 1; omega
  rw [h, Nat.pow_add, Nat.mul_assoc]
  congr 1
  conv => lhs; rw [e]; lhs; rw [hm]
  rw [Nat.mul_assoc, ← Nat.mul_add]
  congr 1
  rw [Nat.mul_assoc]
  omega
/-- a number whose k least digits are 0 -/
theorem low_zero {b n : Nat} (hb : 2 ≤ b) : ∀ {k : Nat}, (∀ j, j < k → (dg b n).getD j 0 = 0) → n = b ^ k * (n / b ^ k)
  | 0, _ => by simp
  | k + 1, h => by
    have ih := low_zero hb (k := k) (fun j hj => h j (by omega))
    have h1 := h k (by omega)
    rw [dg_getD hb] at h1
    have h2 := Nat.mod_add_div (n / b ^ k) b
    rw [h1, Nat.zero_add, Nat.div_div_eq_div_mul, ← Nat.pow_succ] at h2
    conv => lhs; rw [ih, ← h2]
    rw [Nat.pow_succ, Nat.mul_assoc]

/-- x & -x in 32 bits -/
theorem and_neg {x k m : Nat} (hx : x = 2 ^ k * (2 * m + 1)) (hlt : x < 2 ^ 32) : x &&& (2 ^ 32 - x) = 2 ^ k := by
  have hk : k < 32 := by
    rcases Nat.lt_or_ge k 32 with h | h
    · exact h
    · have := Nat.pow_le_pow_right (n := 2) (by omega) h
      have : 2 ^ k * 1 ≤ 2 ^ k * (2 * m + 1) := Nat.mul_le_mul_left _ (by omega)
      omega
  have hm : m < 2 ^ (31 - k) := by
    have e : (2 : Nat) ^ 32 = 2 ^ k * (2 * 2 ^ (31 - k)) := by
      rw [← Nat.pow_succ', ← Nat.pow_add]; congr 1; omega
    rw [hx, e] at hlt
    have := Nat.lt_of_mul_lt_mul_left hlt
    omega
  have e2 : 2 ^ 32 - x = 2 ^ k * (2 * (2 ^ (31 - k) - (m + 1)) + 1) := by
    have e : (2 : Nat) ^ 32 = 2 ^ k * (2 * 2 ^ (31 - k)) := by
      rw [← Nat.pow_succ', ← Nat.pow_add]; congr 1; omega
    rw [hx, e, ← Nat.mul_sub]
    congr 1
    omega
  rw [e2, hx]
  apply Nat.eq_of_testBit_eq
  intro i
  rw [Nat.testBit_and, Nat.testBit_two_pow_mul, Nat.testBit_two_pow_mul, Nat.testBit_two_pow]
  rcases Nat.lt_or_ge i k with h | h
  · simp [Nat.not_le.2 h, show k ≠ i by omega]
  · obtain ⟨j, rfl⟩ := Nat.exists_eq_add_of_le h
    simp only [Nat.le_add_right, decide_true, Bool.true_and, Nat.add_sub_cancel_left]
    cases j with
    | zero => simp
    | succ j =>
      rw [Nat.testBit_succ, Nat.testBit_succ]
      rw [show (2 * m + 1) / 2 = m by omega, show (2 * (2 ^ (31 - k) - (m + 1)) + 1) / 2 = 2 ^ (31 - k) - (m + 1) by omega, Nat.testBit_two_pow_sub_succ hm]
      have : k ≠ k + (j + 1) := by omega
      simp only [this, decide_false]
      cases m.testBit j <;> simp

/-- or of two numbers whose digits do not meet -/
theorem or_add {x y r : Nat} (hx : x < 2 ^ r) (hy : y % 2 ^ r = 0) : x ||| y = x + y := by
  have : y = 2 ^ r * (y / 2 ^ r) := by have := Nat.mod_add_div y (2 ^ r); omega
  rw [this, Nat.or_comm, ← Nat.two_pow_add_eq_or_of_lt hx, Nat.add_comm]
end Go.Dig
