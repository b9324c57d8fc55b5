/- Rational numbers by sign, numerator and denominator; lowest terms; the grid. Plain mathematics, no program. -/
import Derived.Test.YtchcjbbnkcodjaaGreatDoorDig
import Derived.Test.YtchcjbbnkcodjaaGreatDoorRepA
import Derived.Test.YtchcjbbnkcodjaaGreatDoorW6
set_option linter.unusedVariables false
set_option linter.unusedSimpArgs false
namespace Go.Dig
/-- the rational number (-1)^neg * m / n -/
def mkQ (neg : Bool) (m n : Nat) : Rat := mkRat (if neg then -(m : Int) else (m : Int)) n
/-- whether a number is negative -/
def sg (q : Rat) : Bool := decide (q.num < 0)
def nu (q : Rat) : Nat := q.num.natAbs
theorem abs_sign (neg : Bool) (m : Nat) : (if neg then -(m : Int) else (m : Int)).natAbs = m := by cases neg <;> simp
theorem num_mkQ (neg : Bool) {m n : Nat} (hn : n ≠ 0) : (mkQ neg m n).num = if neg then -((m / Nat.gcd m n : Nat) : Int) else ((m / Nat.gcd m n : Nat) : Int) := by
  unfold mkQ
  rw [Rat.num_mkRat, if_neg hn, abs_sign, Nat.gcd_comm]
  cases neg
  · simp
  · simp only [if_true]
    rw [Int.neg_ediv_of_dvd (Int.natCast_dvd_natCast.2 (Nat.gcd_dvd_left m n))]; simp
theorem nu_mkQ (neg : Bool) {m n : Nat} (hn : n ≠ 0) : nu (mkQ neg m n) = m / Nat.gcd m n := by
  unfold nu; rw [num_mkQ _ hn]; cases neg <;> simp only [if_true, if_false, Bool.false_eq_true, Int.natAbs_neg, Int.natAbs_natCast]
theorem den_mkQ (neg : Bool) {m n : Nat} (hn : n ≠ 0) : (mkQ neg m n).den = n / Nat.gcd m n := by
  unfold mkQ; rw [Rat.den_mkRat, if_neg hn, abs_sign, Nat.gcd_comm]
theorem gcd_pos {m n : Nat} (hn : n ≠ 0) : 0 < Nat.gcd m n := Nat.gcd_pos_of_pos_right _ (by omega)
theorem sg_mkQ (neg : Bool) {m n : Nat} (hn : n ≠ 0) : sg (mkQ neg m n) = (neg && decide (m ≠ 0)) := by
  unfold sg; rw [num_mkQ _ hn]
  have hm : m ≠ 0 → 0 < m / Nat.gcd m n := fun h => Nat.div_pos (Nat.le_of_dvd (by omega) (Nat.gcd_dvd_left m n)) (gcd_pos hn)
  cases neg
  · simp only [Bool.false_and, if_false, Bool.false_eq_true, decide_eq_false_iff_not]; exact Int.not_lt.2 (Int.natCast_nonneg _)
  · by_cases h : m = 0
    · subst h; simp
    · have := hm h; simp [h]; omega
theorem mkQ_zero (neg : Bool) (n : Nat) : mkQ neg 0 n = 0 := by unfold mkQ; cases neg <;> simp
theorem nu_zero : nu 0 = 0 := rfl
theorem sg_zero : sg 0 = false := rfl
theorem sg_neg (q : Rat) : sg (-q) = (!sg q && decide (nu q ≠ 0)) := by
  unfold sg nu; rw [Rat.neg_num]
  rcases Int.lt_trichotomy q.num 0 with h | h | h
  · simp [h, show ¬ (0 < q.num) by omega]
  · simp [h]
  · simp only [Int.neg_neg_iff_pos, h, decide_true, show ¬ (q.num < 0) by omega, decide_false, Bool.not_false, Bool.true_and]; symm; exact decide_eq_true (by omega)
theorem red_pow {m n k : Nat} (hm : m ≠ 0) (hn : n ≠ 0) (hk : k ≤ tw m) (hk' : k ≤ tw n) :
    m = 2 ^ k * (m / 2 ^ k) ∧ n = 2 ^ k * (n / 2 ^ k) ∧ m / 2 ^ k ≠ 0 ∧ n / 2 ^ k ≠ 0 ∧ m / Nat.gcd m n = m / 2 ^ k / Nat.gcd (m / 2 ^ k) (n / 2 ^ k) ∧ n / Nat.gcd m n = n / 2 ^ k / Nat.gcd (m / 2 ^ k) (n / 2 ^ k) := by
  have e1 : m = 2 ^ k * (m / 2 ^ k) := (Nat.mul_div_cancel' ((tw_le hm).1 hk)).symm
  have e2 : n = 2 ^ k * (n / 2 ^ k) := (Nat.mul_div_cancel' ((tw_le hn).1 hk')).symm
  refine ⟨e1, e2, fun h => by rw [h] at e1; simp at e1; exact hm e1, fun h => by rw [h] at e2; simp at e2; exact hn e2, ?_, ?_⟩
  · conv => lhs; rw [e1, e2, Nat.gcd_mul_left, Nat.mul_div_mul_left _ _ (Nat.two_pow_pos k)]
  · conv => lhs; rw [e1, e2, Nat.gcd_mul_left, Nat.mul_div_mul_left _ _ (Nat.two_pow_pos k)]
theorem pow_of_bits {n : Nat} (hn : n ≠ 0) (h : (tw n : Int) = bl n - 1) : n = 2 ^ tw n := by
  obtain ⟨u, hu⟩ := tw_spec hn
  have hlt := lt_bl n
  have e : bl n = tw n + 1 := by omega
  rw [e, Nat.pow_succ] at hlt
  have hu0 : u = 0 := by
    rcases Nat.eq_zero_or_pos u with h0 | h0
    · exact h0
    · have : 2 ^ tw n * 3 ≤ 2 ^ tw n * (2 * u + 1) := Nat.mul_le_mul_left _ (by omega)
      have := Nat.two_pow_pos (tw n)
      omega
  conv => lhs; rw [hu, hu0]
  simp
theorem red_gcd {m n k : Nat} (hm : m ≠ 0) (hn : n ≠ 0) (hk : k = min (tw m) (tw n)) (h : (tw (n / 2 ^ k) : Int) = bl (n / 2 ^ k) - 1) : Nat.gcd (m / 2 ^ k) (n / 2 ^ k) = 1 := by
  obtain ⟨e1, e2, h1, h2, -, -⟩ := red_pow (k := k) hm hn (by omega) (by omega)
  have hp := pow_of_bits h2 h
  by_cases ht : tw (n / 2 ^ k) = 0
  · rw [ht] at hp; rw [hp]; simp
  · have hmk : tw m = k := by
      rcases Nat.lt_or_ge k (tw n) with hlt | hge
      · omega
      · exfalso
        have : 2 ^ (k + tw (n / 2 ^ k)) ∣ n := by
          rw [Nat.pow_add, ← hp, ← e2]; exact Nat.dvd_refl _
        have := (tw_le hn).2 this
        omega
    obtain ⟨r, hr⟩ := tw_spec hm
    rw [hmk] at hr
    have hodd : m / 2 ^ k = 2 * r + 1 := by
      conv => lhs; rw [hr]
      exact Nat.mul_div_cancel_left _ (Nat.two_pow_pos k)
    rw [hodd, hp]
    refine Nat.Coprime.pow_right _ ?_
    show Nat.gcd (2 * r + 1) 2 = 1
    rw [Nat.gcd_comm, Nat.gcd_rec]; simp
/-- the number of the grid of precision p next to q -/
def gridQ (q : Rat) (p : Nat) (up : Bool) : Rat := mkRat (if up then (q * 2 ^ p).ceil else (q * 2 ^ p).floor) (2 ^ p)
theorem bl_le_ln (n : Nat) : bl n ≤ 32 * ln 4294967296 n := by
  rw [bl_le_iff, Nat.pow_mul]; exact lt_pow_ln (b := 4294967296) (by decide) n
theorem tw_le_ln (n : Nat) : tw n ≤ 32 * ln 4294967296 n := by
  by_cases h : n = 0
  · subst h; simp [tw]
  · obtain ⟨m, hm⟩ := tw_spec h
    refine Nat.le_trans ?_ (bl_le_ln n)
    rcases Nat.lt_or_ge (bl n) (tw n) with h' | h'
    · have := lt_bl n
      have h2 := Nat.pow_le_pow_right (n := 2) (by omega) (Nat.le_of_lt h')
      have h3 : 2 ^ tw n * 1 ≤ 2 ^ tw n * (2 * m + 1) := Nat.mul_le_mul_left _ (by omega)
      omega
    · exact h'
theorem ln_le_of_le {m n : Nat} (h : m ≤ n) : ln 4294967296 m ≤ ln 4294967296 n := ln_mono (by decide) h
theorem ln_div (m n : Nat) : ln 4294967296 (m / n) ≤ ln 4294967296 m := ln_le_of_le (Nat.div_le_self _ _)
theorem ln_gcd (m n : Nat) (h : n ≠ 0) : ln 4294967296 (Nat.gcd m n) ≤ ln 4294967296 n := ln_le_of_le (Nat.gcd_le_right _ (by omega))
theorem mkQ_le (neg : Bool) {m n : Nat} (hn : n ≠ 0) : nu (mkQ neg m n) ≤ m ∧ (mkQ neg m n).den ≤ n := by
  rw [nu_mkQ neg hn, den_mkQ neg hn]; exact ⟨Nat.div_le_self _ _, Nat.div_le_self _ _⟩
/-- the sign as a number -/
def signQ (q : Rat) : Int := if nu q = 0 then 0 else if sg q then -1 else 1
theorem signQ_eq (q : Rat) : signQ q = q.num.sign := by
  unfold signQ nu sg
  rcases Int.lt_trichotomy q.num 0 with h | h | h
  · rw [if_neg (by omega), if_pos (by simpa using h), Int.sign_eq_neg_one_of_neg h]
  · rw [if_pos (by omega), h]; rfl
  · rw [if_neg (by omega), if_neg (by rw [decide_eq_true_iff]; omega), Int.sign_eq_one_of_pos h]
/-- -1, 0 or 1: how two numbers compare -/
def cmpQ (q r : Rat) : Int := (q.num * r.den - r.num * q.den).sign
attribute [irreducible] sg nu mkQ gridQ signQ cmpQ
end Go.Dig

/- Rational numbers: scaling by powers of 2, the grid in other words. -/
namespace Go.Dig
/-- scaling by a power of 2 -/
def scaleQ (q : Rat) (n : Int) : Rat := if n < 0 then q / 2 ^ (-n).toNat else q * 2 ^ n.toNat
/-- the power with an int as its exponent -/
def powQ (q : Rat) (n : Int) : Rat := if n < 0 then q⁻¹ ^ (-n).toNat else q ^ n.toNat
end Go.Dig

/- Rational numbers: order, comparison, the steps of the grid. -/
namespace Go.Dig
/-! ### steps of the grid -/
end Go.Dig

/- Roots of natural numbers: the greatest number whose power is at most another; Newton's step. Plain mathematics. -/
namespace Go.Dig
def rtFrom (a n : Nat) : Nat → Nat
  | 0 => 0
  | x + 1 => if (x + 1) ^ n ≤ a then x + 1 else rtFrom a n x
/-- the whole part of the root -/
def rt (a n : Nat) : Nat := rtFrom a n a
/-- Newton's step -/
def newt (a n x : Nat) : Nat := (x * (n - 1) + a / x ^ (n - 1)) / n
end Go.Dig

/- Own memory that is lent to a call; what a call has made and hands out; more rules. -/
namespace Go.Vc
open Go Go.Dig

end Go.Vc

/- Appending to a new empty slice: what comes out is let go at once. -/
namespace Go.Vc
open Go Go.Dig

end Go.Vc

/- How pairs of words read as rational numbers; more rules. -/
namespace Go.Vc
open Go Go.Dig

/-- numerator and denominator of a rational number in lowest terms -/
structure IsFr (h : Heap) (a b : Sl) (q : Rat) : Prop where
  num : IsNat h a (nu q)
  den : IsNat h b q.den
/-- its size in words -/
structure Sz (k : Nat) (q : Rat) : Prop where
  num : ln 4294967296 (nu q) ≤ k
  den : ln 4294967296 q.den ≤ k
theorem Sz.mono {k l : Nat} {q : Rat} (s : Sz k q) (h : k ≤ l) : Sz l q := ⟨Nat.le_trans s.num h, Nat.le_trans s.den h⟩
theorem IsNat.nil {h : Heap} {s : Sl} (h0 : s.l = 0) : IsNat h s 0 := by unfold IsNat; rw [dg_zero]; exact Ws.nil h0
theorem mm_min (a b : Nat) : mm false (a : Int) (b : Int) = ((min a b : Nat) : Int) := by unfold mm; simp; split <;> omega
/-- the lowest bit of an int that is not negative -/
theorem BitN.low1 {x : Int} {k : Int → Prop} (n : Nat) (hx : x = n) (hn : n < 9223372036854775808) (hk : k ((n % 2 : Nat) : Int)) : BitN .and .i64 x 1 k := by
  subst hx
  refine ⟨?_⟩
  have e : Vc.bits .and .i64 (n : Int) 1 = n % 2 := by
    have e1 : (BitVec.ofInt 64 (n : Int)).toNat = n := ofInt_nat rfl (by omega)
    have e2 : (BitVec.ofInt 64 1).toNat = 1 := by decide
    show (BitVec.ofInt 64 (n : Int) &&& BitVec.ofInt 64 1).toNat = n % 2
    rw [BitVec.toNat_and, e1, e2, Nat.and_one_is_mod]
  rw [e]
  have : IntKind.i64.wrap ((n % 2 : Nat) : Int) = ((n % 2 : Nat) : Int) := wrap_in _ (by simp [IntKind.min, IntKind.signed, IntKind.bits]; omega) (by simp [IntKind.max, IntKind.signed, IntKind.bits]; omega)
  rw [this]; exact hk
end Go.Vc
