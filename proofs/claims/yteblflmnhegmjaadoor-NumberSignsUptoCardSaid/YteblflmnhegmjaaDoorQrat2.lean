/- Rational numbers: scaling by powers of 2, the grid in other words. -/
import Derived.Test.YteblflmnhegmjaaDoorQrat
set_option linter.unusedVariables false
set_option linter.unusedSimpArgs false
namespace Go.Dig
theorem sg_pow2 (p : Nat) : sg ((2 : Rat) ^ p) = false := by
  unfold sg; rw [(pow2_q p).1]
  exact decide_eq_false (Int.not_lt.2 (Int.pow_nonneg (by decide)))
theorem nu_pow2 (p : Nat) : nu ((2 : Rat) ^ p) = 2 ^ p := by unfold nu; rw [(pow2_q p).1, Int.natAbs_pow]; rfl
theorem scale_up (q : Rat) (p : Nat) : q * 2 ^ p = mkQ (sg q) (nu q * 2 ^ p) q.den := by
  rw [mul_q, sg_pow2, nu_pow2, (pow2_q p).2, Nat.mul_one]; cases sg q <;> rfl
theorem scale_dn (q : Rat) (p : Nat) : q / 2 ^ p = mkQ (sg q) (nu q) (q.den * 2 ^ p) := by
  rw [div_q', sg_pow2, nu_pow2, (pow2_q p).2, Nat.mul_one]; cases sg q <;> rfl
/-- scaling by a power of 2 -/
def scaleQ (q : Rat) (n : Int) : Rat := if n < 0 then q / 2 ^ (-n).toNat else q * 2 ^ n.toNat
theorem scaleQ_up (q : Rat) (n : Int) (p : Nat) (h : n = p) : scaleQ q n = mkQ (sg q) (nu q * 2 ^ p) q.den := by
  unfold scaleQ; rw [if_neg (by omega), h, Int.toNat_natCast, scale_up]
theorem scaleQ_dn (q : Rat) (n : Int) (p : Nat) (h : n = -(p : Int)) (h0 : n < 0) : scaleQ q n = mkQ (sg q) (nu q) (q.den * 2 ^ p) := by
  unfold scaleQ; rw [if_pos (by omega), h, Int.neg_neg, Int.toNat_natCast, scale_dn]
theorem cast_pow2 (p : Nat) : (((2 ^ p : Nat) : Int) : Rat) = (2 : Rat) ^ p := by
  have h := pow2_q p
  refine Rat.ext ?_ ?_
  · rw [Rat.num_intCast, h.1]; simp
  · rw [Rat.den_intCast, h.2]
theorem grid_scaled (q : Rat) (p : Nat) (up : Bool) : gridQ q p up = scaleQ (gridQ (scaleQ q p) 0 up) (-(p : Int)) := by
  have e1 : scaleQ q p = q * 2 ^ p := by unfold scaleQ; rw [if_neg (by omega), Int.toNat_natCast]
  have e2 : ∀ x : Rat, scaleQ x (-(p : Int)) = x / 2 ^ p := fun x => by
    unfold scaleQ
    rcases Nat.eq_zero_or_pos p with h | h
    · subst h; rw [if_neg (by omega), Rat.div_def, Rat.pow_zero, show (1 : Rat)⁻¹ = 1 by decide +kernel]; rfl
    · rw [if_pos (by omega), Int.neg_neg, Int.toNat_natCast]
  rw [e1, e2]
  unfold gridQ
  rw [Rat.pow_zero, Rat.mul_one, Nat.pow_zero, Rat.mkRat_one, Rat.mkRat_eq_div]
  congr 1
  exact cast_pow2 p
theorem grid_up (q : Rat) (p : Nat) : gridQ q p true = -gridQ (-q) p false := by
  unfold gridQ
  rw [if_pos rfl, if_neg (by decide), Rat.ceil_eq_neg_floor_neg, Rat.neg_mul, Rat.neg_mkRat]
theorem bottom_eq (q : Rat) : gridQ q 0 false = mkQ (sg q) (nu q / q.den + (if sg q = true ∧ nu q % q.den ≠ 0 then 1 else 0)) 1 := by
  rw [grid_eq, Nat.pow_zero, Nat.mul_one]
  congr 1
  by_cases h1 : nu q % q.den = 0 <;> cases sg q <;> simp [h1]
/-- the power with an int as its exponent -/
def powQ (q : Rat) (n : Int) : Rat := if n < 0 then q⁻¹ ^ (-n).toNat else q ^ n.toNat
end Go.Dig
