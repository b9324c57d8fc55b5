/- Rational numbers by sign, numerator and denominator; lowest terms; the grid. Plain mathematics, no program. -/
import Derived.Test.YtdemgbmndijkkaaGreatDoorDig
import Derived.Test.YtdemgbmndijkkaaGreatDoorRepA
import Derived.Test.YtdemgbmndijkkaaGreatDoorW6
set_option linter.unusedVariables false
set_option linter.unusedSimpArgs false
namespace Go.Dig
/-- the rational number (-1)^neg * m / n -/
def mkQ (neg : Bool) (m n : Nat) : Rat := mkRat (if neg then -(m : Int) else (m : Int)) n
/-- whether a number is negative -/
def sg (q : Rat) : Bool := decide (q.num < 0)
def nu (q : Rat) : Nat := q.num.natAbs
theorem num_eq (q : Rat) : q.num = if sg q then -(nu q : Int) else (nu q : Int) := by
  unfold sg nu
  by_cases h : q.num < 0
  · rw [if_pos (by simpa using h)]; omega
  · rw [if_neg (by simpa using h)]; omega
theorem mkQ_self (q : Rat) : mkQ (sg q) (nu q) q.den = q := by
  unfold mkQ; rw [← num_eq, Rat.mkRat_self]
theorem abs_sign (neg : Bool) (m : Nat) : (if neg then -(m : Int) else (m : Int)).natAbs = m := by cases neg <;> simp
theorem num_mkQ (neg : Bool) {m n : Nat} (hn : n ≠ 0) : (mkQ neg m n).num = if neg then -((m / Nat.gcd m n : Nat) : Int) else ((m / Nat.gcd m n : Nat) : Int) := by
  unfold mkQ
  rw [Rat.num_mkRat, if_neg hn, abs_sign, Nat.gcd_comm]
  cases neg
  · simp
  · simp only [if_true]
    rw [Int.neg_ediv_of_dvd (Int.natCast_dvd_natCast.2 (Nat.gcd_dvd_left m n))]; simp
theorem nu_mkQ (neg : Bool) {m n : Nat} (hn : n ≠ 0) : nu (mkQ neg m n) = m / Nat.gcd m n := by
  unfold nu; rw [num_mkQ _ hn]; cases neg <;> simp only [if_true, if_false, Bool.false_eq_true, Int.natAbs_neg, Int.natAbs_natCast]
theorem den_mkQ (neg : Bool) {m n : Nat} (hn : n ≠ 0) : (mkQ neg m n).den = n / Nat.gcd m n := by
  unfold mkQ; rw [Rat.den_mkRat, if_neg hn, abs_sign, Nat.gcd_comm]
theorem gcd_pos {m n : Nat} (hn : n ≠ 0) : 0 < Nat.gcd m n := Nat.gcd_pos_of_pos_right _ (by omega)
theorem sg_mkQ (neg : Bool) {m n : Nat} (hn : n ≠ 0) : sg (mkQ neg m n) = (neg && decide (m ≠ 0)) := by
  unfold sg; rw [num_mkQ _ hn]
  have hm : m ≠ 0 → 0 < m / Nat.gcd m n := fun h => Nat.div_pos (Nat.le_of_dvd (by omega) (Nat.gcd_dvd_left m n)) (gcd_pos hn)
  cases neg
  · simp only [Bool.false_and, if_false, Bool.false_eq_true, decide_eq_false_iff_not]; exact Int.not_lt.2 (Int.natCast_nonneg _)
  · by_cases h : m = 0
    · subst h; simp
    · have := hm h; simp [h]; omega
theorem mkQ_zero (neg : Bool) (n : Nat) : mkQ neg 0 n = 0 := by unfold mkQ; cases neg <;> simp
theorem nu_zero : nu 0 = 0 := rfl
theorem sg_zero : sg 0 = false := rfl
theorem den_pos (q : Rat) : 0 < q.den := Nat.pos_of_ne_zero q.den_nz
theorem cop (q : Rat) : Nat.gcd (nu q) q.den = 1 := q.reduced
theorem nu_eq_zero {q : Rat} : nu q = 0 ↔ q = 0 := by unfold nu; rw [Int.natAbs_eq_zero, Rat.num_eq_zero]
theorem mkQ_eq_iff {a b : Bool} {m n k l : Nat} (hn : n ≠ 0) (hl : l ≠ 0) : mkQ a m n = mkQ b k l ↔ (if a then -(m : Int) else (m : Int)) * l = (if b then -(k : Int) else (k : Int)) * n := by
  unfold mkQ; rw [Rat.mkRat_eq_iff hn hl]
theorem mkQ_mul_left (a : Bool) {c m n : Nat} (hc : c ≠ 0) : mkQ a (c * m) (c * n) = mkQ a m n := by
  unfold mkQ; rw [← Rat.mkRat_mul_left hc (n := if a then -(m : Int) else (m : Int))]; congr 1; cases a <;> simp [Int.mul_neg]
theorem ext3 {q r : Rat} (h1 : sg q = sg r) (h2 : nu q = nu r) (h3 : q.den = r.den) : q = r := by
  rw [← mkQ_self q, ← mkQ_self r, h1, h2, h3]
theorem add_q (q r : Rat) : q + r = mkRat (q.num * r.den + r.num * q.den) (q.den * r.den) := Rat.add_def' q r
theorem add_same {q r : Rat} (h : sg q = sg r) : q + r = mkQ (sg q) (nu q * r.den + nu r * q.den) (q.den * r.den) := by
  rw [add_q, num_eq q, num_eq r, h]; unfold mkQ; congr 1
  cases sg r <;> simp [Int.neg_mul, Int.neg_add]
theorem add_ge {q r : Rat} (h : sg q ≠ sg r) (hl : nu r * q.den ≤ nu q * r.den) : q + r = mkQ (sg q) (nu q * r.den - nu r * q.den) (q.den * r.den) := by
  rw [add_q, num_eq q, num_eq r]; unfold mkQ; congr 1
  have e : ((nu q * r.den - nu r * q.den : Nat) : Int) = (nu q : Int) * r.den - (nu r : Int) * q.den := by rw [Int.ofNat_sub hl]; simp
  cases hq : sg q <;> cases hr : sg r <;> simp [hq, hr] at h <;> simp only [if_true, if_false, Bool.false_eq_true, e, Int.neg_mul] <;> omega
theorem add_lt {q r : Rat} (h : sg q ≠ sg r) (hl : nu q * r.den ≤ nu r * q.den) : q + r = mkQ (sg r) (nu r * q.den - nu q * r.den) (q.den * r.den) := by
  rw [Rat.add_comm, Nat.mul_comm q.den]; exact add_ge (Ne.symm h) hl
theorem mul_q (q r : Rat) : q * r = mkQ (sg q != sg r) (nu q * nu r) (q.den * r.den) := by
  rw [Rat.mul_def', num_eq q, num_eq r]; unfold mkQ; congr 1
  cases sg q <;> cases sg r <;> simp [Int.neg_mul, Int.mul_neg]
theorem nu_neg (q : Rat) : nu (-q) = nu q := by unfold nu; simp
theorem sg_neg (q : Rat) : sg (-q) = (!sg q && decide (nu q ≠ 0)) := by
  unfold sg nu; rw [Rat.neg_num]
  rcases Int.lt_trichotomy q.num 0 with h | h | h
  · simp [h, show ¬ (0 < q.num) by omega]
  · simp [h]
  · simp only [Int.neg_neg_iff_pos, h, decide_true, show ¬ (q.num < 0) by omega, decide_false, Bool.not_false, Bool.true_and]; symm; exact decide_eq_true (by omega)
theorem nu_inv (q : Rat) (h : nu q ≠ 0) : nu q⁻¹ = q.den := by
  have h' : q.num ≠ 0 := by unfold nu at h; omega
  unfold nu; rw [Rat.num_inv, Int.natAbs_mul]; rcases Int.lt_or_gt_of_ne h' with h1 | h1 <;> simp [Int.sign_eq_neg_one_of_neg, Int.sign_eq_one_of_pos, h1]
theorem den_inv (q : Rat) (h : nu q ≠ 0) : q⁻¹.den = nu q := by
  unfold nu at h ⊢; rw [Rat.den_inv, if_neg (by omega)]
theorem sg_inv (q : Rat) : sg q⁻¹ = sg q := by
  unfold sg; rw [Rat.num_inv]
  have hd := den_pos q
  rcases Int.lt_trichotomy q.num 0 with h1 | h1 | h1
  · simp [Int.sign_eq_neg_one_of_neg, h1, hd]
  · simp [h1]
  · simp [Int.sign_eq_one_of_pos, h1, Int.not_lt.2 (Int.le_of_lt h1)]
theorem div_q (q r : Rat) (h : nu r ≠ 0) : q / r = mkQ (sg q != sg r) (nu q * r.den) (q.den * nu r) := by
  rw [Rat.div_def, mul_q, sg_inv, nu_inv r h, den_inv r h]
theorem div_q' (q r : Rat) : q / r = mkQ (sg q != sg r) (nu q * r.den) (q.den * nu r) := by
  by_cases h : nu r = 0
  · have h0 : r = 0 := nu_eq_zero.1 h
    subst h0
    rw [h, Nat.mul_zero, Rat.div_def, Rat.inv_zero, Rat.mul_zero]
    unfold mkQ; simp
  · exact div_q q r h
theorem nu_pow (q : Rat) (n : Nat) : nu (q ^ n) = nu q ^ n := by unfold nu; rw [Rat.num_pow, Int.natAbs_pow]
theorem sg_pow (q : Rat) (n : Nat) : sg (q ^ n) = (sg q && decide (n % 2 = 1)) := by
  have key : ∀ n : Nat, ((q.num ^ (2 * n) ≥ 0) ∧ (q.num < 0 → q.num ^ (2 * n + 1) < 0) ∧ (0 ≤ q.num → 0 ≤ q.num ^ (2 * n + 1)) ∧ (q.num < 0 → 0 < q.num ^ (2 * n))) := by
    intro n
    have e : q.num ^ (2 * n) = (q.num * q.num) ^ n := by rw [Int.pow_mul, Int.pow_succ, Int.pow_succ, Int.pow_zero, Int.one_mul]
    have h0 : 0 ≤ q.num * q.num := by
      rcases Int.le_total 0 q.num with h | h
      · exact Int.mul_nonneg h h
      · exact Int.mul_nonneg_of_nonpos_of_nonpos h h
    have h1 : 0 ≤ q.num ^ (2 * n) := by rw [e]; exact Int.pow_nonneg h0
    have h2 : q.num < 0 → 0 < q.num ^ (2 * n) := fun h => by rw [e]; exact Int.pow_pos (Int.mul_pos_of_neg_of_neg h h)
    refine ⟨h1, fun h => ?_, fun h => Int.pow_nonneg h, h2⟩
    rw [Int.pow_succ]; exact Int.mul_neg_of_pos_of_neg (h2 h) h
  unfold sg; rw [Rat.num_pow]
  obtain ⟨k1, k2, k3, k4⟩ := key (n / 2)
  rcases Nat.mod_two_eq_zero_or_one n with h | h
  · rw [show n = 2 * (n / 2) by omega]
    rw [Bool.eq_iff_iff]; simp; omega
  · rw [show n = 2 * (n / 2) + 1 by omega]
    rw [Bool.eq_iff_iff]; simp; omega
theorem two_pow_ne (k : Nat) : 2 ^ k ≠ 0 := by have := Nat.two_pow_pos k; omega
theorem red_pow {m n k : Nat} (hm : m ≠ 0) (hn : n ≠ 0) (hk : k ≤ tw m) (hk' : k ≤ tw n) :
    m = 2 ^ k * (m / 2 ^ k) ∧ n = 2 ^ k * (n / 2 ^ k) ∧ m / 2 ^ k ≠ 0 ∧ n / 2 ^ k ≠ 0 ∧ m / Nat.gcd m n = m / 2 ^ k / Nat.gcd (m / 2 ^ k) (n / 2 ^ k) ∧ n / Nat.gcd m n = n / 2 ^ k / Nat.gcd (m / 2 ^ k) (n / 2 ^ k) := by
  have e1 : m = 2 ^ k * (m / 2 ^ k) := (Nat.mul_div_cancel' ((tw_le hm).1 hk)).symm
  have e2 : n = 2 ^ k * (n / 2 ^ k) := (Nat.mul_div_cancel' ((tw_le hn).1 hk')).symm
  refine ⟨e1, e2, fun h => by rw [h] at e1; simp at e1; exact hm e1, fun h => by rw [h] at e2; simp at e2; exact hn e2, ?_, ?_⟩
  · conv => lhs; rw [e1, e2, Nat.gcd_mul_left, Nat.mul_div_mul_left _ _ (Nat.two_pow_pos k)]
  · conv => lhs; rw [e1, e2, Nat.gcd_mul_left, Nat.mul_div_mul_left _ _ (Nat.two_pow_pos k)]
theorem pow_of_bits {n : Nat} (hn : n ≠ 0) (h : (tw n : Int) = bl n - 1) : n = 2 ^ tw n := by
  obtain ⟨u, hu⟩ := tw_spec hn
  have hlt := lt_bl n
  have e : bl n = tw n + 1 := by omega
  rw [e, Nat.pow_succ] at hlt
  have hu0 : u = 0 := by
    rcases Nat.eq_zero_or_pos u with h0 | h0
    · exact h0
    · have : 2 ^ tw n * 3 ≤ 2 ^ tw n * (2 * u + 1) := Nat.mul_le_mul_left _ (by omega)
      have := Nat.two_pow_pos (tw n)
      omega
  conv => lhs; rw [hu, hu0]
  simp
theorem red_gcd {m n k : Nat} (hm : m ≠ 0) (hn : n ≠ 0) (hk : k = min (tw m) (tw n)) (h : (tw (n / 2 ^ k) : Int) = bl (n / 2 ^ k) - 1) : Nat.gcd (m / 2 ^ k) (n / 2 ^ k) = 1 := by
  obtain ⟨e1, e2, h1, h2, -, -⟩ := red_pow (k := k) hm hn (by omega) (by omega)
  have hp := pow_of_bits h2 h
  by_cases ht : tw (n / 2 ^ k) = 0
  · rw [ht] at hp; rw [hp]; simp
  · have hmk : tw m = k := by
      rcases Nat.lt_or_ge k (tw n) with hlt | hge
      · omega
      · exfalso
        have : 2 ^ (k + tw (n / 2 ^ k)) ∣ n := by
          rw [Nat.pow_add, ← hp, ← e2]; exact Nat.dvd_refl _
        have := (tw_le hn).2 this
        omega
    obtain ⟨r, hr⟩ := tw_spec hm
    rw [hmk] at hr
    have hodd : m / 2 ^ k = 2 * r + 1 := by
      conv => lhs; rw [hr]
      exact Nat.mul_div_cancel_left _ (Nat.two_pow_pos k)
    rw [hodd, hp]
    refine Nat.Coprime.pow_right _ ?_
    show Nat.gcd (2 * r + 1) 2 = 1
    rw [Nat.gcd_comm, Nat.gcd_rec]; simp
/-- the whole part -/
theorem floor_mkRat (a : Int) {b : Nat} (hb : b ≠ 0) : (mkRat a b).floor = a / b := by
  rw [Rat.floor_def]
  obtain ⟨g, h0, h1, h2⟩ := Rat.mkRat_num_den (n := a) (d := b) (n' := (mkRat a b).num) (d' := (mkRat a b).den) (z' := (mkRat a b).den_nz) (c := (mkRat a b).reduced) hb rfl
  generalize (mkRat a b).num = x at *
  generalize (mkRat a b).den = y at *
  rw [h1, h2, Int.natCast_mul, Int.mul_ediv_mul_of_pos_left _ _ (by omega)]
theorem pow2_q (p : Nat) : ((2 : Rat) ^ p).num = 2 ^ p ∧ ((2 : Rat) ^ p).den = 1 := by
  rw [Rat.num_pow, Rat.den_pow]; simp
theorem mul_pow2 (q : Rat) (p : Nat) : q * 2 ^ p = mkRat (q.num * 2 ^ p) q.den := by
  rw [Rat.mul_def', (pow2_q p).1, (pow2_q p).2, Nat.mul_one]
theorem floor_scaled (q : Rat) (p : Nat) : (q * 2 ^ p).floor = q.num * 2 ^ p / q.den := by rw [mul_pow2, floor_mkRat _ q.den_nz]
theorem ceil_scaled (q : Rat) (p : Nat) : (q * 2 ^ p).ceil = -(-(q.num * 2 ^ p) / q.den) := by
  rw [Rat.ceil_eq_neg_floor_neg, mul_pow2, Rat.neg_mkRat, floor_mkRat _ q.den_nz]
/-- the number of the grid of precision p next to q -/
def gridQ (q : Rat) (p : Nat) (up : Bool) : Rat := mkRat (if up then (q * 2 ^ p).ceil else (q * 2 ^ p).floor) (2 ^ p)
theorem neg_ediv' (a : Nat) {b : Nat} (hb : b ≠ 0) : -(a : Int) / (b : Int) = -((a / b + (if a % b = 0 then 0 else 1) : Nat) : Int) := by
  have e := Nat.div_add_mod a b
  have hlt := Nat.mod_lt a (Nat.pos_of_ne_zero hb)
  split
  · rename_i h
    rw [h] at e
    have : -(a : Int) = (-((a / b : Nat) : Int)) * b := by
      have e' : ((b * (a / b) + 0 : Nat) : Int) = a := by rw [e]
      rw [← e']; push_cast; rw [Int.add_zero, Int.neg_mul, Int.mul_comm]
    rw [this, Int.mul_ediv_cancel _ (by omega)]; simp
  · have : -(a : Int) = (-((a / b + 1 : Nat) : Int)) * b + ((b - a % b : Nat) : Int) := by
      obtain ⟨q, hq⟩ : ∃ q, q = a / b := ⟨_, rfl⟩
      obtain ⟨r, hr⟩ : ∃ r, r = a % b := ⟨_, rfl⟩
      rw [← hq, ← hr] at e ⊢
      rw [← hr] at hlt
      clear hq hr
      rw [Int.ofNat_sub (by omega), ← e]
      simp only [Int.natCast_add, Int.natCast_mul, Int.neg_mul, Int.add_mul, Int.natCast_one, Int.one_mul]
      rw [Int.mul_comm (q : Int)]
      omega
    rw [this, Int.add_comm, Int.add_mul_ediv_right _ _ (by omega)]
    have : ((b - a % b : Nat) : Int) / b = 0 := Int.ediv_eq_zero_of_lt (by omega) (by
      have : 0 < a % b := by omega
      omega)
    rw [this]; simp
theorem grid_eq (q : Rat) (p : Nat) (up : Bool) : gridQ q p up = mkQ (sg q) (nu q * 2 ^ p / q.den + (if up = sg q ∨ nu q * 2 ^ p % q.den = 0 then 0 else 1)) (2 ^ p) := by
  unfold gridQ mkQ
  rw [floor_scaled, ceil_scaled, num_eq q]
  have hd := q.den_nz
  generalize nu q = m at *
  generalize q.den = d at *
  have e : ((m : Int) * 2 ^ p) = ((m * 2 ^ p : Nat) : Int) := by push_cast; rfl
  congr 1
  cases sg q <;> cases up <;> simp only [if_true, if_false, Bool.false_eq_true, Int.neg_mul, e, neg_ediv' _ hd, Int.neg_neg, true_or, false_or, Bool.true_eq_false] <;> simp [Int.natCast_ediv]
theorem bl_le_ln (n : Nat) : bl n ≤ 32 * ln 4294967296 n := by
  rw [bl_le_iff, Nat.pow_mul]; exact lt_pow_ln (b := 4294967296) (by decide) n
theorem tw_le_ln (n : Nat) : tw n ≤ 32 * ln 4294967296 n := by
  by_cases h : n = 0
  · subst h; simp [tw]
  · obtain ⟨m, hm⟩ := tw_spec h
    refine Nat.le_trans ?_ (bl_le_ln n)
    rcases Nat.lt_or_ge (bl n) (tw n) with h' | h'
    · have := lt_bl n
      have h2 := Nat.pow_le_pow_right (n := 2) (by omega) (Nat.le_of_lt h')
      have h3 : 2 ^ tw n * 1 ≤ 2 ^ tw n * (2 * m + 1) := Nat.mul_le_mul_left _ (by omega)
      omega
    · exact h'
theorem ln_le_of_le {m n : Nat} (h : m ≤ n) : ln 4294967296 m ≤ ln 4294967296 n := ln_mono (by decide) h
theorem ln_div (m n : Nat) : ln 4294967296 (m / n) ≤ ln 4294967296 m := ln_le_of_le (Nat.div_le_self _ _)
theorem ln_gcd (m n : Nat) (h : n ≠ 0) : ln 4294967296 (Nat.gcd m n) ≤ ln 4294967296 n := ln_le_of_le (Nat.gcd_le_right _ (by omega))
theorem mkQ_le (neg : Bool) {m n : Nat} (hn : n ≠ 0) : nu (mkQ neg m n) ≤ m ∧ (mkQ neg m n).den ≤ n := by
  rw [nu_mkQ neg hn, den_mkQ neg hn]; exact ⟨Nat.div_le_self _ _, Nat.div_le_self _ _⟩
/-- the sign as a number -/
def signQ (q : Rat) : Int := if nu q = 0 then 0 else if sg q then -1 else 1
theorem signQ_eq (q : Rat) : signQ q = q.num.sign := by
  unfold signQ nu sg
  rcases Int.lt_trichotomy q.num 0 with h | h | h
  · rw [if_neg (by omega), if_pos (by simpa using h), Int.sign_eq_neg_one_of_neg h]
  · rw [if_pos (by omega), h]; rfl
  · rw [if_neg (by omega), if_neg (by rw [decide_eq_true_iff]; omega), Int.sign_eq_one_of_pos h]
/-- -1, 0 or 1: how two numbers compare -/
def cmpQ (q r : Rat) : Int := (q.num * r.den - r.num * q.den).sign
theorem sign_mul_pos {a : Int} {d : Nat} (h : 0 < d) : (a * d).sign = a.sign := by rw [Int.sign_mul, Int.sign_natCast_of_ne_zero (by omega), Int.mul_one]
theorem cmpQ_sub (q r : Rat) : signQ (q - r) = cmpQ q r := by
  rw [signQ_eq, Rat.sub_def', cmpQ]
  have hd : q.den * r.den ≠ 0 := Nat.mul_ne_zero q.den_nz r.den_nz
  obtain ⟨g, h0, h1, -⟩ := Rat.mkRat_num_den (n := q.num * r.den - r.num * q.den) (d := q.den * r.den) (n' := (mkRat (q.num * r.den - r.num * q.den) (q.den * r.den)).num) (d' := (mkRat (q.num * r.den - r.num * q.den) (q.den * r.den)).den) (z' := Rat.den_nz _) (c := Rat.reduced _) hd rfl
  generalize (mkRat (q.num * r.den - r.num * q.den) (q.den * r.den)).num = x at *
  rw [h1, sign_mul_pos (by omega)]
theorem cmpQ_lt {q r : Rat} : cmpQ q r = -1 ↔ q < r := by
  rw [Rat.lt_iff, cmpQ, Int.sign_eq_neg_one_iff_neg]; omega
theorem cmpQ_eq {q r : Rat} : cmpQ q r = 0 ↔ q = r := by
  rw [Rat.eq_iff_mul_eq_mul, cmpQ, Int.sign_eq_zero_iff_zero]; omega
theorem cmpQ_gt {q r : Rat} : cmpQ q r = 1 ↔ r < q := by
  rw [Rat.lt_iff, cmpQ, Int.sign_eq_one_iff_pos]; omega
theorem cmpQ_signs {q r : Rat} (h : signQ q ≠ signQ r) : cmpQ q r = if signQ q < signQ r then -1 else 1 := by
  rw [signQ_eq, signQ_eq] at *
  have h1 : (q.num * r.den).sign = q.num.sign := sign_mul_pos (den_pos r)
  have h2 : (r.num * q.den).sign = r.num.sign := sign_mul_pos (den_pos q)
  unfold cmpQ
  generalize q.num * r.den = x at *
  generalize r.num * q.den = y at *
  rw [← h1, ← h2] at h ⊢
  rcases Int.lt_trichotomy x 0 with a | a | a <;> rcases Int.lt_trichotomy y 0 with b | b | b <;>
    simp only [Int.sign_eq_neg_one_of_neg, Int.sign_eq_one_of_pos, Int.sign_zero, a, b, ne_eq, not_true_eq_false] at h ⊢
  all_goals first | (rw [if_pos (by decide)]; exact Int.sign_eq_neg_one_of_neg (by omega)) | (rw [if_neg (by decide)]; exact Int.sign_eq_one_of_pos (by omega))
theorem sign_cmpI (x y : Nat) : ((x : Int) - y).sign = (if x < y then -1 else if x = y then 0 else 1) := by
  rcases Nat.lt_trichotomy x y with a | a | a
  · rw [if_pos a, Int.sign_eq_neg_one_of_neg (by omega)]
  · rw [if_neg (by omega), if_pos a, a]; simp
  · rw [if_neg (by omega), if_neg (by omega), Int.sign_eq_one_of_pos (by omega)]
theorem cmpQ_same {q r : Rat} (h : signQ q = signQ r) : cmpQ q r = if sg q then -(cmpI (nu q * r.den) (nu r * q.den)) else cmpI (nu q * r.den) (nu r * q.den) := by
  unfold cmpI
  rw [← sign_cmpI]
  have hs : nu q ≠ 0 → sg q = sg r ∧ nu r ≠ 0 := fun hq => by
    unfold signQ at h
    rw [if_neg hq] at h
    by_cases hr : nu r = 0
    · rw [if_pos hr] at h; split at h <;> simp at h
    · rw [if_neg hr] at h
      refine ⟨?_, hr⟩
      revert h; cases sg q <;> cases sg r <;> simp
  unfold cmpQ
  rw [num_eq q, num_eq r]
  by_cases hq : nu q = 0
  · have hr : nu r = 0 := by
      unfold signQ at h
      rw [if_pos hq] at h
      by_cases hr : nu r = 0
      · exact hr
      · rw [if_neg hr] at h; split at h <;> simp at h
    rw [hq, hr]; simp
  · rw [← (hs hq).1]
    cases sg q
    · simp
    · simp only [if_true]
      rw [← Int.sign_neg]; congr 1; simp only [Int.neg_mul, Int.natCast_mul]; omega
theorem ln_two_pow (p : Nat) : ln 4294967296 (2 ^ p) ≤ p + 1 := by
  rw [ln_le_iff (by decide)]
  refine Nat.lt_of_lt_of_le (Nat.pow_lt_pow_right (by decide) (Nat.lt_succ_self p)) (Nat.pow_le_pow_left (by decide) _)
theorem nu_int (n : Int) : nu (n : Rat) = n.natAbs := by unfold nu; rw [Rat.num_intCast]
theorem sg_int (n : Int) : sg (n : Rat) = decide (n < 0) := by unfold sg; rw [Rat.num_intCast]
theorem den_int (n : Int) : (n : Rat).den = 1 := Rat.den_intCast n
theorem half_q (q : Rat) : q / ((2 : Int) : Rat) = mkQ (sg q) (nu q) (q.den * 2) := by
  rw [div_q', sg_int, nu_int, den_int]; simp
/-- sizes of results -/
theorem add_le (q r : Rat) : nu (q + r) ≤ nu q * r.den + nu r * q.den ∧ (q + r).den ≤ q.den * r.den := by
  have hd : q.den * r.den ≠ 0 := Nat.mul_ne_zero q.den_nz r.den_nz
  by_cases h : sg q = sg r
  · rw [add_same h]; exact mkQ_le _ hd
  · rcases Nat.le_total (nu r * q.den) (nu q * r.den) with hl | hl
    · rw [add_ge h hl]; have := mkQ_le (sg q) (m := nu q * r.den - nu r * q.den) hd; exact ⟨by omega, this.2⟩
    · rw [add_lt h hl]; have := mkQ_le (sg r) (m := nu r * q.den - nu q * r.den) hd; exact ⟨by omega, this.2⟩
theorem mul_le (q r : Rat) : nu (q * r) ≤ nu q * nu r ∧ (q * r).den ≤ q.den * r.den := by
  rw [mul_q]; exact mkQ_le _ (Nat.mul_ne_zero q.den_nz r.den_nz)
attribute [irreducible] sg nu mkQ gridQ signQ cmpQ
end Go.Dig
/- Rational numbers: scaling by powers of 2, the grid in other words. -/
namespace Go.Dig
theorem sg_pow2 (p : Nat) : sg ((2 : Rat) ^ p) = false := by
  unfold sg; rw [(pow2_q p).1]
  exact decide_eq_false (Int.not_lt.2 (Int.pow_nonneg (by decide)))
theorem nu_pow2 (p : Nat) : nu ((2 : Rat) ^ p) = 2 ^ p := by unfold nu; rw [(pow2_q p).1, Int.natAbs_pow]; rfl
theorem scale_up (q : Rat) (p : Nat) : q * 2 ^ p = mkQ (sg q) (nu q * 2 ^ p) q.den := by
  rw [mul_q, sg_pow2, nu_pow2, (pow2_q p).2, Nat.mul_one]; cases sg q <;> rfl
theorem scale_dn (q : Rat) (p : Nat) : q / 2 ^ p = mkQ (sg q) (nu q) (q.den * 2 ^ p) := by
  rw [div_q', sg_pow2, nu_pow2, (pow2_q p).2, Nat.mul_one]; cases sg q <;> rfl
/-- scaling by a power of 2 -/
def scaleQ (q : Rat) (n : Int) : Rat := if n < 0 then q / 2 ^ (-n).toNat else q * 2 ^ n.toNat
theorem scaleQ_up (q : Rat) (n : Int) (p : Nat) (h : n = p) : scaleQ q n = mkQ (sg q) (nu q * 2 ^ p) q.den := by
  unfold scaleQ; rw [if_neg (by omega), h, Int.toNat_natCast, scale_up]
theorem scaleQ_dn (q : Rat) (n : Int) (p : Nat) (h : n = -(p : Int)) (h0 : n < 0) : scaleQ q n = mkQ (sg q) (nu q) (q.den * 2 ^ p) := by
  unfold scaleQ; rw [if_pos (by omega), h, Int.neg_neg, Int.toNat_natCast, scale_dn]
theorem cast_pow2 (p : Nat) : (((2 ^ p : Nat) : Int) : Rat) = (2 : Rat) ^ p := by
  have h := pow2_q p
  refine Rat.ext ?_ ?_
  · rw [Rat.num_intCast, h.1]; simp
  · rw [Rat.den_intCast, h.2]
theorem grid_scaled (q : Rat) (p : Nat) (up : Bool) : gridQ q p up = scaleQ (gridQ (scaleQ q p) 0 up) (-(p : Int)) := by
  have e1 : scaleQ q p = q * 2 ^ p := by unfold scaleQ; rw [if_neg (by omega), Int.toNat_natCast]
  have e2 : ∀ x : Rat, scaleQ x (-(p : Int)) = x / 2 ^ p := fun x => by
    unfold scaleQ
    rcases Nat.eq_zero_or_pos p with h | h
    · subst h; rw [if_neg (by omega), Rat.div_def, Rat.pow_zero, show (1 : Rat)⁻¹ = 1 by decide +kernel]; rfl
    · rw [if_pos (by omega), Int.neg_neg, Int.toNat_natCast]
  rw [e1, e2]
  unfold gridQ
  rw [Rat.pow_zero, Rat.mul_one, Nat.pow_zero, Rat.mkRat_one, Rat.mkRat_eq_div]
  congr 1
  exact cast_pow2 p
theorem grid_up (q : Rat) (p : Nat) : gridQ q p true = -gridQ (-q) p false := by
  unfold gridQ
  rw [if_pos rfl, if_neg (by decide), Rat.ceil_eq_neg_floor_neg, Rat.neg_mul, Rat.neg_mkRat]
theorem bottom_eq (q : Rat) : gridQ q 0 false = mkQ (sg q) (nu q / q.den + (if sg q = true ∧ nu q % q.den ≠ 0 then 1 else 0)) 1 := by
  rw [grid_eq, Nat.pow_zero, Nat.mul_one]
  congr 1
  by_cases h1 : nu q % q.den = 0 <;> cases sg q <;> simp [h1]
/-- the power with an int as its exponent -/
def powQ (q : Rat) (n : Int) : Rat := if n < 0 then q⁻¹ ^ (-n).toNat else q ^ n.toNat
end Go.Dig
/- Rational numbers: order, comparison, the steps of the grid. -/
namespace Go.Dig
theorem lt_tr {a b c : Rat} (h1 : a < b) (h2 : b < c) : a < c := by
  rw [Rat.lt_iff_le_and_ne] at h1 h2 ⊢
  refine ⟨Rat.le_trans h1.1 h2.1, fun e => ?_⟩
  subst e
  exact h1.2 (Rat.le_antisymm h1.1 h2.1)
theorem cmp_tri (q r : Rat) : (cmpQ q r = -1 ∧ q < r) ∨ (cmpQ q r = 0 ∧ q = r) ∨ (cmpQ q r = 1 ∧ r < q) := by
  have h : cmpQ q r = -1 ∨ cmpQ q r = 0 ∨ cmpQ q r = 1 := by
    unfold cmpQ
    generalize q.num * r.den - r.num * q.den = d
    rcases Int.lt_trichotomy d 0 with h | h | h
    · exact .inl (Int.sign_eq_neg_one_of_neg h)
    · exact .inr (.inl (by rw [h]; rfl))
    · exact .inr (.inr (Int.sign_eq_one_of_pos h))
  rcases h with h | h | h
  · exact .inl ⟨h, cmpQ_lt.1 h⟩
  · exact .inr (.inl ⟨h, cmpQ_eq.1 h⟩)
  · exact .inr (.inr ⟨h, cmpQ_gt.1 h⟩)
theorem cmp_bound (q r : Rat) : -1 ≤ cmpQ q r ∧ cmpQ q r ≤ 1 := by
  rcases cmp_tri q r with ⟨h, -⟩ | ⟨h, -⟩ | ⟨h, -⟩ <;> omega
theorem cmp_flip (q r : Rat) : cmpQ r q = -cmpQ q r := by
  unfold cmpQ
  rw [← Int.sign_neg]
  congr 1
  omega
theorem cmp_trans {q r s : Rat} (h : cmpQ q r = cmpQ r s) : cmpQ q s = cmpQ q r := by
  rcases cmp_tri q r with ⟨h1, l1⟩ | ⟨h1, rfl⟩ | ⟨h1, l1⟩
  · rw [h1] at h ⊢; exact cmpQ_lt.2 (lt_tr l1 (cmpQ_lt.1 h.symm))
  · exact h.symm
  · rw [h1] at h ⊢; exact cmpQ_gt.2 (lt_tr (cmpQ_gt.1 h.symm) l1)
theorem cmp_left {q r s : Rat} (h : cmpQ q r = 0) : cmpQ q s = cmpQ r s := by rw [cmpQ_eq.1 h]
theorem cmp_right {q r s : Rat} (h : cmpQ r s = 0) : cmpQ q s = cmpQ q r := by rw [cmpQ_eq.1 h]
theorem cmp_add (q r s : Rat) : cmpQ (q + s) (r + s) = cmpQ q r := by
  rw [← cmpQ_sub, ← cmpQ_sub]
  congr 1
  rw [Rat.sub_eq_add_neg, Rat.sub_eq_add_neg, Rat.neg_add, Rat.add_assoc, ← Rat.add_assoc s, Rat.add_comm s, Rat.add_assoc, Rat.add_neg_cancel, Rat.add_zero]

/-! ### steps of the grid -/
theorem pow2_pos (p : Nat) : (0 : Rat) < 2 ^ p := by
  have h := pow2_q p
  rw [Rat.lt_iff, h.1, h.2]
  have : (0 : Int) < 2 ^ p := Int.pow_pos (by decide)
  simp
  exact_mod_cast this
theorem grid_div (q : Rat) (p : Nat) (up : Bool) : gridQ q p up = ((if up then (q * 2 ^ p).ceil else (q * 2 ^ p).floor : Int) : Rat) / 2 ^ p := by
  unfold gridQ
  rw [Rat.mkRat_eq_div]
  congr 1
  exact cast_pow2 p
theorem div_mul_pow (a : Rat) (p : Nat) : a / 2 ^ p * 2 ^ p = a := by
  have h0 : (2 : Rat) ^ p ≠ 0 := fun e => by
    have := pow2_pos p
    rw [e] at this
    exact absurd this (by decide)
  rw [Rat.div_def, Rat.mul_assoc, Rat.mul_comm _ (2 ^ p), Rat.mul_inv_cancel _ h0, Rat.mul_one]
theorem lt_scale {a b : Rat} (p : Nat) : a * 2 ^ p < b * 2 ^ p ↔ a < b := Rat.mul_lt_mul_right (pow2_pos p)
theorem le_scale {a b : Rat} (p : Nat) : a * 2 ^ p ≤ b * 2 ^ p ↔ a ≤ b := by rw [← Rat.not_lt, ← Rat.not_lt, lt_scale]
theorem grid_le (q : Rat) (p : Nat) : gridQ q p false ≤ q := by
  rw [← le_scale p, grid_div, div_mul_pow]
  exact Rat.floor_le _
theorem le_grid (q : Rat) (p : Nat) : q ≤ gridQ q p true := by
  rw [← le_scale p, grid_div, div_mul_pow]
  exact Rat.le_ceil
theorem ceil_floor (a : Rat) : a.ceil = a.floor ∨ a.ceil = a.floor + 1 := by
  have h1 : a.floor ≤ a.ceil := by
    have := Rat.le_trans (Rat.floor_le a) (Rat.le_ceil (x := a))
    exact_mod_cast this
  have h2 : a.ceil ≤ a.floor + 1 := by
    have l1 : (a.ceil : Rat) < a + 1 := Rat.ceil_lt
    have l2 : a < ((a.floor + 1 : Int) : Rat) := Rat.lt_floor_add_one a
    have l3 : a + 1 < ((a.floor + 1 : Int) : Rat) + 1 := by
      rw [← Rat.not_le, Rat.add_le_add_right, Rat.not_le]; exact l2
    have l4 := lt_tr l1 l3
    have l5 : ((a.floor + 1 : Int) : Rat) + 1 = ((a.floor + 1 + 1 : Int) : Rat) := by rw [Rat.intCast_add (a.floor + 1) 1]; rfl
    rw [l5] at l4
    have : a.ceil < a.floor + 1 + 1 := by exact_mod_cast l4
    omega
  omega
theorem grid_same {q : Rat} {p : Nat} (h : gridQ q p false = gridQ q p true) : gridQ q p false = q :=
  Rat.le_antisymm (grid_le q p) (by rw [h]; exact le_grid q p)
theorem grid_step {q : Rat} {p : Nat} (h : gridQ q p false ≠ gridQ q p true) : gridQ q p true - gridQ q p false = scaleQ ((1 : Int) : Rat) (-(p : Int)) ∧ gridQ q p false < q ∧ q < gridQ q p true := by
  have hc : (q * 2 ^ p).ceil = (q * 2 ^ p).floor + 1 := by
    rcases ceil_floor (q * 2 ^ p) with e | e
    · exfalso; apply h
      rw [grid_div, grid_div, if_pos rfl, if_neg (by decide), e]
    · exact e
  refine ⟨?_, ?_, ?_⟩
  · have e2 : scaleQ ((1 : Int) : Rat) (-(p : Int)) = ((1 : Int) : Rat) / 2 ^ p := by
      unfold scaleQ
      rcases Nat.eq_zero_or_pos p with h | h
      · subst h; rw [if_neg (by omega), Rat.div_def, Rat.pow_zero, show (1 : Rat)⁻¹ = 1 by decide +kernel]; rfl
      · rw [if_pos (by omega), Int.neg_neg, Int.toNat_natCast]
    rw [e2, grid_div, grid_div, if_pos rfl, if_neg (by decide), hc]
    rw [Rat.div_def, Rat.div_def, Rat.div_def, Rat.intCast_add, Rat.add_mul, Rat.sub_eq_add_neg, Rat.add_comm (_ * _), Rat.add_assoc, Rat.add_neg_cancel, Rat.add_zero]
  · rw [Rat.lt_iff_le_and_ne]
    refine ⟨grid_le q p, fun e => h ?_⟩
    -- q lies on the grid: both are q
    have e1 : ((q * 2 ^ p).floor : Rat) = q * 2 ^ p := by
      have := congrArg (· * (2 : Rat) ^ p) e
      simp only [grid_div, div_mul_pow] at this
      simpa using this
    exfalso
    have l1 : ((q * 2 ^ p).ceil : Rat) < q * 2 ^ p + 1 := Rat.ceil_lt
    rw [hc, Rat.intCast_add, e1] at l1
    exact absurd l1 (by rw [Rat.not_lt]; exact Rat.le_refl)
  · rw [Rat.lt_iff_le_and_ne]
    refine ⟨le_grid q p, fun e => ?_⟩
    have e1 : ((q * 2 ^ p).ceil : Rat) = q * 2 ^ p := by
      have := congrArg (· * (2 : Rat) ^ p) e
      simp only [grid_div, div_mul_pow] at this
      simpa using this.symm
    have l1 : q * 2 ^ p < (((q * 2 ^ p).floor + 1 : Int) : Rat) := Rat.lt_floor_add_one _
    rw [← hc, e1] at l1
    exact absurd l1 (by rw [Rat.not_lt]; exact Rat.le_refl)
end Go.Dig
/- Roots of natural numbers: the greatest number whose power is at most another; Newton's step. Plain mathematics. -/
namespace Go.Dig
def rtFrom (a n : Nat) : Nat → Nat
  | 0 => 0
  | x + 1 => if (x + 1) ^ n ≤ a then x + 1 else rtFrom a n x
/-- the whole part of the root -/
def rt (a n : Nat) : Nat := rtFrom a n a
theorem rtFrom_le {a n : Nat} (hn : 1 ≤ n) : ∀ x, (rtFrom a n x) ^ n ≤ a
  | 0 => by
    rw [rtFrom, Nat.zero_pow (by omega)]; exact Nat.zero_le _
  | x + 1 => by
    rw [rtFrom]
    split
    · assumption
    · exact rtFrom_le hn x
theorem le_rtFrom {a n s : Nat} (h : s ^ n ≤ a) : ∀ x, s ≤ x → s ≤ rtFrom a n x
  | 0, h0 => by rw [rtFrom]; exact h0
  | x + 1, hx => by
    rw [rtFrom]
    split
    · exact hx
    · rename_i hh
      refine le_rtFrom h x ?_
      rcases Nat.lt_or_ge s (x + 1) with h1 | h1
      · omega
      · have : s = x + 1 := by omega
        subst this; exact absurd h hh
theorem self_le_pow {s n : Nat} (hn : 1 ≤ n) : s ≤ s ^ n := by
  rcases Nat.eq_zero_or_pos s with h | h
  · subst h; exact Nat.zero_le _
  · calc s = s ^ 1 := (Nat.pow_one s).symm
      _ ≤ s ^ n := Nat.pow_le_pow_right h hn
theorem rt_le {a n : Nat} (hn : 1 ≤ n) : rt a n ^ n ≤ a := rtFrom_le hn a
theorem le_rt {a n s : Nat} (hn : 1 ≤ n) (h : s ^ n ≤ a) : s ≤ rt a n := le_rtFrom h a (Nat.le_trans (self_le_pow hn) h)
theorem rt_eq {a n x : Nat} (hn : 1 ≤ n) (h1 : x ^ n ≤ a) (h2 : rt a n ≤ x) : x = rt a n := Nat.le_antisymm (le_rt hn h1) h2
theorem rt_lt {a n : Nat} (hn : 1 ≤ n) : a < (rt a n + 1) ^ n := by
  rcases Nat.lt_or_ge a ((rt a n + 1) ^ n) with h | h
  · exact h
  · have := le_rt hn h; omega
theorem rt_zero {n : Nat} : rt 0 n = 0 := rfl
theorem rt_pow {r n : Nat} (hn : 1 ≤ n) : rt (r ^ n) n = r := by
  refine Nat.le_antisymm ?_ (le_rt hn (Nat.le_refl _))
  have := rt_le (a := r ^ n) hn
  exact (Nat.pow_le_pow_iff_left (by omega)).1 this
theorem rearr {r x A C : Nat} (h1 : r ≤ x) (h2 : C ≤ A) : C * x + r * A ≤ x * A + r * C := by
  obtain ⟨d, rfl⟩ := Nat.le.dest h1
  obtain ⟨e, rfl⟩ := Nat.le.dest h2
  simp only [Nat.mul_add, Nat.add_mul, Nat.mul_comm C]
  have := Nat.zero_le (d * e)
  omega
theorem bern (x r : Nat) : ∀ m, (m + 1) * r * x ^ m ≤ m * x ^ (m + 1) + r ^ (m + 1)
  | 0 => by simp
  | m + 1 => by
    have ih := bern x r m
    have key : r ^ (m + 1) * x + r * x ^ (m + 1) ≤ x * x ^ (m + 1) + r * r ^ (m + 1) := by
      rcases Nat.le_total r x with h | h
      · exact rearr h (Nat.pow_le_pow_left h _)
      · have := rearr h (Nat.pow_le_pow_left h (m + 1))
        rw [Nat.mul_comm (x ^ (m + 1)) r, Nat.mul_comm x (r ^ (m + 1))] at this
        omega
    have ih2 := Nat.mul_le_mul_right x ih
    have l1 : (m + 1) * r * x ^ m * x = (m + 1) * r * x ^ (m + 1) := by rw [Nat.mul_assoc, ← Nat.pow_succ]
    have l2 : (m * x ^ (m + 1) + r ^ (m + 1)) * x = m * (x * x ^ (m + 1)) + r ^ (m + 1) * x := by rw [Nat.add_mul, Nat.mul_assoc, Nat.mul_comm (x ^ (m + 1)) x]
    rw [l1, l2] at ih2
    rw [Nat.pow_succ' (n := m + 1) (m := x), Nat.pow_succ' (n := m + 1) (m := r)]
    have e1 : (m + 1 + 1) * r * x ^ (m + 1) = (m + 1) * r * x ^ (m + 1) + r * x ^ (m + 1) := by
      rw [Nat.add_mul (m + 1) 1 r, Nat.one_mul, Nat.add_mul]
    have e2 : (m + 1) * (x * x ^ (m + 1)) = m * (x * x ^ (m + 1)) + x * x ^ (m + 1) := by
      rw [Nat.add_mul, Nat.one_mul]
    rw [e1, e2]
    omega
/-- Newton's step -/
def newt (a n x : Nat) : Nat := (x * (n - 1) + a / x ^ (n - 1)) / n
theorem rt_newt {a n x : Nat} (hn : 1 ≤ n) (hx : 0 < x) : rt a n ≤ newt a n x := by
  unfold newt
  obtain ⟨m, rfl⟩ : ∃ m, n = m + 1 := ⟨n - 1, by omega⟩
  rw [Nat.add_sub_cancel]
  have hX : 0 < x ^ m := Nat.pow_pos hx
  rw [Nat.le_div_iff_mul_le (by omega)]
  have h1 := bern x (rt a (m + 1)) m
  have h2 := rt_le (a := a) hn
  have h3 : x * m + a / x ^ m = (x * m * x ^ m + a) / x ^ m := by
    rw [Nat.mul_comm (x * m), Nat.mul_add_div hX]
  rw [h3, Nat.le_div_iff_mul_le hX, Nat.mul_comm (rt a (m + 1))]
  have h4 : m * x ^ (m + 1) = x * m * x ^ m := by rw [Nat.pow_succ', ← Nat.mul_assoc, Nat.mul_comm m x]
  omega
theorem newt_stop {a n x : Nat} (hn : 1 ≤ n) (hx : 0 < x) (h : x ≤ newt a n x) (hr : rt a n ≤ x) : x = rt a n := by
  refine rt_eq hn ?_ hr
  unfold newt at h
  obtain ⟨m, rfl⟩ : ∃ m, n = m + 1 := ⟨n - 1, by omega⟩
  rw [Nat.add_sub_cancel] at h
  have hX : 0 < x ^ m := Nat.pow_pos hx
  rw [Nat.le_div_iff_mul_le (by omega), Nat.mul_add, Nat.mul_one] at h
  have h1 : x ≤ a / x ^ m := by omega
  rw [Nat.le_div_iff_mul_le hX] at h1
  rw [Nat.pow_succ']; exact h1
theorem rt_pos {a n : Nat} (hn : 1 ≤ n) (ha : a ≠ 0) : 0 < rt a n := le_rt hn (by rw [Nat.one_pow]; omega)
theorem rt_start {a n c k : Nat} (hn : 1 ≤ n) (ha : a < 2 ^ c) (hk : c ≤ n * k) : rt a n ≤ 2 ^ k := by
  rcases Nat.lt_or_ge (2 ^ k) (rt a n) with h | h
  · exfalso
    have h1 : (2 ^ k) ^ n ≤ rt a n ^ n := Nat.pow_le_pow_left (Nat.le_of_lt h) n
    rw [← Nat.pow_mul, Nat.mul_comm] at h1
    have h2 : 2 ^ c ≤ 2 ^ (n * k) := Nat.pow_le_pow_right (by decide) hk
    have := rt_le (a := a) hn
    omega
  · exact h
end Go.Dig
/- Own memory that is lent to a call; what a call has made and hands out; more rules. -/
namespace Go.Vc
open Go Go.Dig

theorem Fn.freeze {T : Tab} {f : FuncId} {args : List Value} {h : Heap} {L : Own} {R R' : Value → Heap → Own → Prop} (hf : Vc.Fn T f args h L R) (hr : ∀ v h' L', h.le h' → R v h' L' → FzN (R' v) h' L') : Vc.Fn T f args h L R' :=
  fun w s => (hf w s).mono fun e w' he => by
    cases e with
    | returned v =>
      obtain ⟨h', L', i, r⟩ := he
      obtain ⟨h2, L2, p, i2⟩ := i.fz (hr _ _ _ i.hle r)
      exact ⟨h2, L2, i2, p⟩
    | panicked c => exact he
    | outgrown => exact he
/-- a call that hands out memory of its own -/
theorem CallN.make {T : Tab} {f : FuncId} {args : List Value} {h : Heap} {L : Own} {k : Value → Heap → Own → Prop} {R : Value → Heap → Own → Prop} (ok : T.fn f = true) (hf : Vc.Fn T f args h [] R) (hk : ∀ v h' La, h.le h' → R v h' La → k v h' (La ++ L)) : CallN T f args h L k :=
  .of ok (.done ⟨[], L, _, by simp, hf, fun v h' La hl r => ⟨La ++ L, .refl _, hk v h' La hl r⟩⟩)
/-- own memory that a call only reads -/
theorem Fn.lend {T : Tab} {f : FuncId} {args : List Value} {h : Heap} {b : Nat} {o : Obj} {R : Value → Prop} (hf : h.le (h.put b o) → Fn0 T f args (h.put b o) fun v _ => R v) : Vc.Fn T f args h [(b, o)] fun v _ L' => L' = [(b, o)] ∧ R v := by
  intro w s
  have hb := s.sep _ (List.mem_singleton.2 rfl)
  have hown := s.own _ (List.mem_singleton.2 rfl)
  have s' : Sat (h.put b o) [] w := by
    refine ⟨fun x o' hx => ?_, fun x hx => (by cases hx), fun x hx => (by cases hx), (by simp)⟩
    unfold Heap.put at hx
    split at hx
    · rename_i e; subst e; cases hx; exact hown
    · exact s.imm _ _ hx
  have hle : h.le (h.put b o) := fun x o' hx => by
    unfold Heap.put
    split
    · rename_i e; subst e; simp only at hb; rw [hb] at hx; cases hx
    · exact hx
  refine ((hf hle).out w s').mono fun e w' he => ?_
  cases e with
  | returned v =>
    obtain ⟨h', L', i, rfl, r⟩ := he
    have hbo : h' b = some o := i.hle _ _ (by simp [Heap.put])
    refine ⟨fun x => if x = b then none else h' x, [(b, o)], ⟨⟨fun x o' hx => ?_, fun x hx => ?_, fun x hx => ?_, (by simp)⟩, i.os, i.tape, i.output, i.size, fun x hl hn => i.fr x hl (by simp), fun x o' hx => ?_, fun x o' hx hl hn => ?_, fun x hx hl => ?_, fun hs => hs, fun hs x o' hx ho => ?_⟩, rfl, r⟩
    · split at hx
      · cases hx
      · exact i.imm _ _ hx
    · obtain rfl := List.mem_singleton.1 hx; exact i.imm _ _ hbo
    · obtain rfl := List.mem_singleton.1 hx; simp
    · have hne : x ≠ b := fun e => by subst e; simp only at hb; rw [hb] at hx; cases hx
      simp only [if_neg hne]
      exact i.hle _ _ (by simp [Heap.put, hne, hx])
    · split at hx
      · cases hx
      · rename_i hne
        have := i.hnew _ _ hx hl (by simp)
        simpa [Heap.put, hne] using this
    · obtain rfl := List.mem_singleton.1 hx; simp
    · by_cases hxb : x = b
      · subst hxb; rw [i.imm _ _ hbo] at ho; cases ho; exact hs _ (List.mem_singleton.2 rfl)
      · refine i.frz (fun y hy => by cases hy) x o' (.inl ?_) ho
        rcases hx with hx | hx
        · exact hx
        · simp at hx; exact absurd hx hxb
  | panicked c => exact he
  | outgrown => exact he
theorem CallN.lend {T : Tab} {f : FuncId} {args : List Value} {h : Heap} {L : Own} {k : Value → Heap → Own → Prop} {b : Nat} {o : Obj} {R : Value → Prop} (n : Nat) (hn : L[n]? = some (b, o)) (ok : T.fn f = true) (hf : h.le (h.put b o) → Fn0 T f args (h.put b o) fun v _ => R v)
    (hk : ∀ v h', h.le h' → R v → k v h' L) : CallN T f args h L k := by
  refine CallN.own n hn ok (Fn.lend hf) fun v h' La hl ⟨e, r⟩ => ⟨o, e, ?_⟩
  obtain ⟨hlt, hget⟩ := List.getElem?_eq_some_iff.1 hn
  rw [← hget, List.set_getElem_self]
  exact hk v h' hl r
theorem GrowS.behind {e : TypeId} {size : Nat} {v : Value} {n : Nat} {xs : List Value} {La : Own} (g : GrowS e size v n xs La) (L : Own) : GrowS e size v n xs (La ++ L) :=
  ⟨g.1, match g.2 with
    | .inl x => .inl x
    | .inr ⟨i, b, cap, zs, h1, h2, h3, h4⟩ => .inr ⟨i, b, cap, zs, h1, by
      obtain ⟨hlt, hget⟩ := List.getElem?_eq_some_iff.1 h2
      rw [List.getElem?_append_left hlt]; exact h2, h3, h4⟩⟩
theorem GrowS.zero {e : TypeId} {kd : IntKind} {b q c : Nat} {L : Own} (i : Nat) (h : L[i]? = some (b, .cells (List.replicate c (Value.int kd 0)).toArray e (0, 0))) (hq : q ≤ c) : GrowS e 1 (.slice (some ⟨b, 0, Option.none⟩) q c) q ((List.replicate q 0).map (vu kd)) L :=
  ⟨by simp, .inr ⟨i, b, c, List.replicate (c - q) (Value.int kd 0), rfl, by
    rw [h, List.map_replicate]
    show some (b, Obj.cells (List.replicate c (Value.int kd 0)).toArray e (0, 0)) = some (b, Obj.cells (List.replicate q (Value.int kd 0) ++ List.replicate (c - q) (Value.int kd 0)).toArray e (0, 0))
    rw [List.replicate_append_replicate, show q + (c - q) = c by omega], hq, by simp; omega⟩⟩
/-- what is left of a slice behind a place -/
theorem CutA.drop {kd : IntKind} {h : Heap} {s : Sl} {l : List Nat} {i e : Int} {k : Option Addr → Nat → Nat → Prop} (w : Ws kd h s l) (q : Nat) (hi : i = q) (he : e = s.l) (hq : q < l.length) (hk : ∀ s' : Sl, Ws kd h s' (l.drop q) → k s'.a s'.l s'.c) : CutA s.a i e s.c 1 k := by
  have hl := w.len
  have hc := w.cap
  obtain ⟨b, off, c, T, fz, h1, h2, h3⟩ := w.mem (by rintro rfl; simp at hq)
  refine ⟨q, s.l, some ⟨b, off + q, none⟩, s.l - q, s.c - q, hi, he, by omega, hc, by rw [if_neg (by omega), h1]; simp [add_lit], rfl, rfl, ?_⟩
  refine hk ⟨some ⟨b, off + q, none⟩, s.l - q, s.c - q⟩ ⟨by simp; omega, by simp; omega, fun _ => ⟨b, off + q, c, T, fz, rfl, h2, fun j hj => ?_⟩⟩
  simp at hj
  rw [Nat.add_assoc, h3 (q + j) (by omega)]
  simp [List.getD_eq_getElem?_getD, List.getElem?_drop]
theorem WrapN.u32v {n : Int} {k : Int → Prop} (x : Nat) (h : n % 4294967296 = x) (hk : k x) : WrapN .u32 n k := WrapN.u32m (by rw [h]; exact hk)
theorem WrapN.u64w {n : Int} {k : Int → Prop} (x : Nat) (h : n % 18446744073709551616 = x) (hk : k x) : WrapN .u64 n k := WrapN.u64m (by rw [h]; exact hk)
theorem ShlN.u32p {x r : Nat} {a b : Int} {k : Int → Prop} (ha : a = (x : Nat)) (hb : b = (r : Nat)) (hx : x < 65536) (hr : r ≤ 15) (hk : ∀ p : Nat, Hq (p = x * 2 ^ r) → p < 2147483648 → k p) : ShlN .u32 a b k := by
  subst ha hb
  have h1 : 2 ^ r ≤ 2 ^ 15 := Nat.pow_le_pow_right (by omega) hr
  have h2 : x * 2 ^ r ≤ 65535 * 32768 := Nat.mul_le_mul (by omega) h1
  refine ShlN.mk' r (by show r ≤ 32; omega) ?_
  have e : ((x : Int) * 2 ^ r) = ((x * 2 ^ r : Nat) : Int) := by push_cast; rfl
  rw [e, wrap_nat rfl (by show _ < 2 ^ 32; omega)]
  exact hk _ ⟨rfl⟩ (by omega)
/-- the low 16 bits of an int, and what is above -/
theorem BitN.mask16 {x : Int} {k : Int → Prop} (h1 : -9223372036854775808 ≤ x) (h2 : x ≤ 9223372036854775807) (hk : ∀ y : Nat, (y : Int) = x % 65536 → k y) : BitN .and .i64 x 65535 k := by
  refine ⟨?_⟩
  have e : ((Vc.bits .and .i64 x 65535 : Nat) : Int) = x % 65536 := by
    show (((BitVec.ofInt 64 x &&& BitVec.ofInt 64 65535).toNat : Nat) : Int) = x % 65536
    have e2 : (BitVec.ofInt 64 65535).toNat = 2 ^ 16 - 1 := by decide
    rw [BitVec.toNat_and, e2, Nat.and_two_pow_sub_one_eq_mod, BitVec.toNat_ofInt]
    omega
  have hlt : x % 65536 < 65536 := Int.emod_lt_of_pos _ (by decide)
  have hge : 0 ≤ x % 65536 := Int.emod_nonneg _ (by decide)
  rw [wrap_in _ (by simp [IntKind.min, IntKind.signed, IntKind.bits] <;> omega) (by simp [IntKind.max, IntKind.signed, IntKind.bits] <;> omega)]
  exact hk _ e
theorem ShrN.i16 {kd : IntKind} {x : Int} {k : Int → Prop} (hb : 16 ≤ kd.bits) (hk : ∀ y : Int, y = x / 65536 → k y) : ShrN kd x 16 k := by
  refine ⟨by decide, ?_⟩
  have e : min (16 : Int).toNat kd.bits = 16 := Nat.min_eq_left hb
  rw [e]
  exact hk _ (Int.fdiv_eq_ediv_of_nonneg _ (by decide))
end Go.Vc
/- Appending to a new empty slice: what comes out is let go at once. -/
namespace Go.Vc
open Go Go.Dig

theorem App.weaken {T : Tab} {e : TypeId} {size bytes : Nat} {s x : Value} {h : Heap} {L : Own} {k k1 : Value → Heap → Own → Prop} (a : App T e size bytes s x h L k1) (hk : ∀ v h' L', k1 v h' L' → FzN (k v) h' L') : App T e size bytes s x h L k :=
  ⟨fun ok o ρ K Q w0 h0 L0 w ty c h1 h2 h3 h4 h5 h6 h7 inv hout hK => a.ex ok o ρ K Q w0 h0 L0 w ty c h1 h2 h3 h4 h5 h6 h7 inv hout fun v h' L' w' i r => by
    obtain ⟨h2, L2, p, i2⟩ := i.fz (hk v h' L' r)
    exact hK v h2 L2 w' i2 p⟩

theorem App.fresh0 {T : Tab} {e : TypeId} {bytes : Nat} {h : Heap} {L : Own} {k : Value → Heap → Own → Prop} {z : Value} {bs : Nat}
    (hi : T.inf e = some ([z], bytes)) (hL : L[0]? = some (bs, .cells #[] e (0, 0)))
    (ad : Addr) (m c : Nat) (news : List Value) (hl : news.length = m) (hm0 : 0 < m) (hnews : ∀ j, j < news.length → Has h L (ad.add j) (news.getD j undef))
    (hm : m ≤ 70368744177664) (hby : m * bytes ≤ 140737488355328)
    (hk : ∀ b cap zs, m ≤ cap → k (.slice (some ⟨b, 0, none⟩) m cap) h ((b, .cells (news ++ zs).toArray e (0, 0)) :: L)) :
    App T e 1 bytes (.slice (some ⟨bs, 0, none⟩) 0 0) (.slice (some ad) m c) h L k := by
  refine ⟨fun ok o ρ K Q w0 h0 L0 w ty cc hop hty hca hargs ht hsz2 hd inv hout hK => ?_⟩
  obtain ⟨d, hd1, hd2⟩ := hd
  obtain ⟨i, zv, h1, h2, h3, h4, h5⟩ := ok.inf _ _ _ hi
  have hsi : i.size = 1 := by rw [h4]; rfl
  have cell : ∀ (w : World), (∀ a v, Has h L a v → w.cell? a = some v) → ∀ j u, news[j]? = some u → w.cell? (ad.add j) = some u := fun w hc j u hu => by
    obtain ⟨hj, hju⟩ := List.getElem?_eq_some_iff.1 hu
    have := hc _ _ (hnews j hj)
    rw [this]; simp [List.getD_eq_getElem?_getD, hu]
  have hc0 := cell w fun a v hh => inv.toSat.cell hh
  have hexec : ∀ r, (Builtin.append_ #[cc.argTypes.getD 0 0, cc.argTypes.getD 0 0] o.type #[.slice (some ⟨bs, 0, none⟩) 0 0, .slice (some ad) m c]).run T.prog w = r → (execOp ρ.eval o).run T.prog w = r.andThen fun v w => .ok (.value v) w := by
    intro r hr
    have he : cc.argTypes = #[cc.argTypes.getD 0 0, cc.argTypes.getD 1 0] := by
      apply Array.ext
      · simp [hsz2]
      · intro j hj1 hj2
        rw [hsz2] at hj1
        match j, hj1 with
        | 0, _ => simp [Array.getD, hsz2]
        | 1, _ => simp [Array.getD, hsz2]
    rw [← hr, ← append_types ht hd1 hd2, ← he]
    simp only [execOp, hop, resolve, hca, invoke, builtin, Sem.run_bind, Sem.run_pure, Result.andThen_ok, hargs]
  refine .inl ?_
  have hr := run_append_grow (P := T.prog) w _ o.type e i zv ht h1 h2 ⟨bs, 0, none⟩ 0 0 [] (by simp) (fun j u hu => by simp at hu) ad m c news (by rw [hl, hsi, Nat.mul_one]) hc0 (by omega) (by omega) (growslice_fits (by omega) (by rw [h5]; simpa using hby))
  have hge := grownCap_ge w (0 + m) 0 e
  refine wp_value (hexec _ hr) (hK _ _ _ _ (inv.drew.alloc _ rfl) ?_)
  have := hk w.heap.size (grownCap w (0 + m) 0 e) (Builtin.zeroCells zv.cells (grownCap w (0 + m) 0 e - (0 + m))).toList (by omega)
  have e0 : ([] : List Value) ++ news = news := rfl
  simp only [Nat.zero_add] at this ⊢
  have e1 : (#[] ++ news.toArray ++ Builtin.zeroCells zv.cells (grownCap w m 0 e - m)) = (news ++ (Builtin.zeroCells zv.cells (grownCap w m 0 e - m)).toList).toArray := by simp
  first | exact this | (rw [e1]; exact this)

/-- all of a slice of numbers, appended to a new empty one -/
theorem App.fresh {T : Tab} {e : TypeId} {bytes : Nat} {h : Heap} {L : Own} {k : Value → Heap → Own → Prop} {kd : IntKind} {z : Value} {t : Sl} {l : List Nat} {bs : Nat} (hi : T.inf e = some ([z], bytes))
    (w : Ws kd h t l) (hn : l.length ≤ 35184372088832) (hby : bytes ≤ 4)
    (hk : ∀ h' (s : Sl), h.le h' → Ws kd h' s l → k s.val h' L) : App T e 1 bytes (.slice (some ⟨bs, 0, none⟩) 0 0) t.val h ((bs, .cells [].toArray e (0, 0)) :: L) k := by
  have hln := w.len
  by_cases h0 : l = []
  · subst h0
    obtain ⟨a, ln, c⟩ := t
    cases hln
    match a with
    | none =>
      exact App.weaken (App.nil hi (GrowS.new (z := z) (kd := .u32) (m := 0) 0 rfl) (k := fun v h' L' => v = .slice (some ⟨bs, 0, none⟩) 0 0 ∧ h' = h ∧ L' = (bs, .cells [].toArray e (0, 0)) :: L) ⟨rfl, rfl, rfl⟩) fun v h' L' ⟨e1, e2, e3⟩ => by
        subst e1 e2 e3
        exact FzN.drop 0 (.done (hk _ ⟨some ⟨bs, 0, none⟩, 0, 0⟩ (Heap.le_refl _) (Ws.nil rfl)))
    | some a =>
      have hx : App T e 1 bytes (.slice (some ⟨bs, 0, none⟩) 0 0) (.slice (some a) 0 c) h ((bs, .cells [].toArray e (0, 0)) :: L) fun v h' L' => v = .slice (some ⟨bs, 0, none⟩) 0 0 ∧ h' = h ∧ L' = (bs, .cells [].toArray e (0, 0)) :: L := by
        refine ⟨fun ok o ρ K Q w0 h0 L0 w ty cc hop hty hca hargs ht hsz2 hd inv hout hK => ?_⟩
        obtain ⟨d, hd1, hd2⟩ := hd
        obtain ⟨i, zv, h1, h2, h3, h4, h5⟩ := ok.inf _ _ _ hi
        have hexec : ∀ r, (Builtin.append_ #[cc.argTypes.getD 0 0, cc.argTypes.getD 0 0] o.type #[.slice (some ⟨bs, 0, none⟩) 0 0, .slice (some a) 0 c]).run T.prog w = r → (execOp ρ.eval o).run T.prog w = r.andThen fun v w => .ok (.value v) w := by
          intro r hr
          have he : cc.argTypes = #[cc.argTypes.getD 0 0, cc.argTypes.getD 1 0] := by
            apply Array.ext
            · simp [hsz2]
            · intro j hj1 hj2
              rw [hsz2] at hj1
              match j, hj1 with
              | 0, _ => simp [Array.getD, hsz2]
              | 1, _ => simp [Array.getD, hsz2]
          rw [← hr, ← append_types ht hd1 hd2, ← he]
          simp only [execOp, hop, resolve, hca, invoke, builtin, Sem.run_bind, Sem.run_pure, Result.andThen_ok, hargs]
        refine .inl (wp_value (hexec (.ok (.slice (some ⟨bs, 0, none⟩) 0 0) w) ?_) (hK _ _ _ _ inv ⟨rfl, rfl, rfl⟩))
        generalize cc.argTypes.getD 0 0 = t at ht ⊢
        simp [Builtin.append_, run_underlying ht, sizeOf, typeInfo, h1, Builtin.lenOf, Builtin.firstCells, loadCells, loadCellsFrom, storeCells]
      exact App.weaken hx fun v h' L' ⟨e1, e2, e3⟩ => by
        subst e1 e2 e3
        exact FzN.drop 0 (.done (hk _ ⟨some ⟨bs, 0, none⟩, 0, 0⟩ (Heap.le_refl _) (Ws.nil rfl)))
  · obtain ⟨b', off, c', T', fz, h1, h2, h3⟩ := w.mem h0
    obtain ⟨a, ln, c⟩ := t
    cases h1
    have hpos : 0 < l.length := List.length_pos_iff.2 h0
    have hln' : ln = l.length := hln
    subst hln'
    refine App.weaken (App.fresh0 hi rfl ⟨b', off, none⟩ l.length c (l.map (vu kd)) (by simp) hpos (fun j hj => ?_) (by omega) (Nat.le_trans (Nat.mul_le_mul hn hby) (by decide))
      (k := fun v h' L' => ∃ b cap zs, l.length ≤ cap ∧ v = .slice (some ⟨b, 0, none⟩) l.length cap ∧ h' = h ∧ L' = (b, .cells (l.map (vu kd) ++ zs).toArray e (0, 0)) :: (bs, .cells [].toArray e (0, 0)) :: L) (fun b cap zs hc => ⟨b, cap, zs, hc, rfl, rfl, rfl⟩)) fun v h' L' ⟨b, cap, zs, hc, e1, e2, e3⟩ => ?_
    · simp at hj
      rw [add_lit]
      refine Has.imm h2 ?_
      rw [h3 j hj]; simp [hj, vu, List.getD_eq_getElem?_getD]
    · subst e1 e2 e3
      exact FzN.keep 0 rfl fun hle => FzN.drop 0 (.done (hk _ ⟨some ⟨b, 0, none⟩, l.length, cap⟩ hle (Ws.grown rfl hc)))
end Go.Vc
/- How pairs of words read as rational numbers; more rules. -/
namespace Go.Vc
open Go Go.Dig

/-- numerator and denominator of a rational number in lowest terms -/
structure IsFr (h : Heap) (a b : Sl) (q : Rat) : Prop where
  num : IsNat h a (nu q)
  den : IsNat h b q.den
theorem IsFr.mono {h h' : Heap} {a b : Sl} {q : Rat} (w : IsFr h a b q) (hl : h.le h') : IsFr h' a b q := ⟨w.num.mono hl, w.den.mono hl⟩
/-- its size in words -/
structure Sz (k : Nat) (q : Rat) : Prop where
  num : ln 4294967296 (nu q) ≤ k
  den : ln 4294967296 q.den ≤ k
theorem Sz.mono {k l : Nat} {q : Rat} (s : Sz k q) (h : k ≤ l) : Sz l q := ⟨Nat.le_trans s.num h, Nat.le_trans s.den h⟩
theorem IsNat.nil {h : Heap} {s : Sl} (h0 : s.l = 0) : IsNat h s 0 := by unfold IsNat; rw [dg_zero]; exact Ws.nil h0
theorem mm_min (a b : Nat) : mm false (a : Int) (b : Int) = ((min a b : Nat) : Int) := by unfold mm; simp; split <;> omega
theorem mm_max (a b : Nat) : mm true (a : Int) (b : Int) = ((max a b : Nat) : Int) := by unfold mm; simp; split <;> omega
/-- the lowest bit of an int that is not negative -/
theorem BitN.low1 {x : Int} {k : Int → Prop} (n : Nat) (hx : x = n) (hn : n < 9223372036854775808) (hk : k ((n % 2 : Nat) : Int)) : BitN .and .i64 x 1 k := by
  subst hx
  refine ⟨?_⟩
  have e : Vc.bits .and .i64 (n : Int) 1 = n % 2 := by
    have e1 : (BitVec.ofInt 64 (n : Int)).toNat = n := ofInt_nat rfl (by omega)
    have e2 : (BitVec.ofInt 64 1).toNat = 1 := by decide
    show (BitVec.ofInt 64 (n : Int) &&& BitVec.ofInt 64 1).toNat = n % 2
    rw [BitVec.toNat_and, e1, e2, Nat.and_one_is_mod]
  rw [e]
  have : IntKind.i64.wrap ((n % 2 : Nat) : Int) = ((n % 2 : Nat) : Int) := wrap_in _ (by simp [IntKind.min, IntKind.signed, IntKind.bits]; omega) (by simp [IntKind.max, IntKind.signed, IntKind.bits]; omega)
  rw [this]; exact hk
end Go.Vc