/- More rules: shifts by a count that is not written out; more on digits. -/
import Derived.Test.YteblflmnhegmjaaDoorRep
import Derived.Test.YteblflmnhegmjaaDoorDig
set_option linter.unusedVariables false
set_option linter.unusedSimpArgs false
namespace Go.Vc
open Go Go.Dig

theorem ShlN.u64p {x r : Nat} {a b : Int} {k : Int → Prop} (ha : a = (x : Nat)) (hb : b = (r : Nat)) (hx : x < 4294967296) (hr : r ≤ 31) (hk : ∀ p : Nat, Hq (p = x * 2 ^ r) → p < 9223372036854775808 → k p) : ShlN .u64 a b k := by
  subst ha hb
  have h1 : 2 ^ r ≤ 2 ^ 31 := Nat.pow_le_pow_right (by omega) hr
  have h2 : x * 2 ^ r ≤ 4294967295 * 2147483648 := Nat.mul_le_mul (by omega) h1
  refine ShlN.mk' r (by show r ≤ 64; omega) ?_
  have e : ((x : Int) * 2 ^ r) = ((x * 2 ^ r : Nat) : Int) := by push_cast; rfl
  rw [e, wrap_nat rfl (by show _ < 2 ^ 64; omega)]
  exact hk _ ⟨rfl⟩ (by omega)
theorem ShrN.sym {kd : IntKind} {x r : Nat} {a b : Int} {k : Int → Prop} (ha : a = (x : Nat)) (hb : b = (r : Nat)) (hr : r ≤ kd.bits) (hk : ∀ q : Nat, Hq (q = x / 2 ^ r) → q ≤ x → k q) : ShrN kd a b k := by
  subst ha hb
  refine ShrN.of r hr (by omega) ?_
  have e : ((x : Int) / 2 ^ r) = ((x / 2 ^ r : Nat) : Int) := by push_cast; rfl
  rw [e]
  exact hk _ ⟨rfl⟩ (Nat.div_le_self _ _)
theorem WrapN.u64e {n : Int} {k : Int → Prop} (hk : ∀ x : Nat, (x : Int) = n % 18446744073709551616 → k x) : WrapN .u64 n k :=
  WrapN.u64m (by rw [← Int.toNat_of_nonneg (show 0 ≤ n % 18446744073709551616 by omega)]; exact hk _ (Int.toNat_of_nonneg (by omega)))
theorem WrapN.u32e {n : Int} {k : Int → Prop} (hk : ∀ x : Nat, (x : Int) = n % 4294967296 → k x) : WrapN .u32 n k :=
  WrapN.u32m (by rw [← Int.toNat_of_nonneg (show 0 ≤ n % 4294967296 by omega)]; exact hk _ (Int.toNat_of_nonneg (by omega)))
theorem ShrN.e {kd : IntKind} {a : Int} {k : Int → Prop} (b : Nat) (hb : b ≤ kd.bits) (ha : 0 ≤ a) (hk : ∀ q : Nat, (q : Int) = a / 2 ^ b → k q) : ShrN kd a (b : Int) k := by
  refine ShrN.of b hb ha ?_
  have h : 0 ≤ a / 2 ^ b := Int.ediv_nonneg ha (Int.pow_nonneg (by omega))
  rw [← Int.toNat_of_nonneg h]; exact hk _ (Int.toNat_of_nonneg h)
/-- two parts of a word that do not meet -/
theorem BitN.orp {kd : IntKind} {x y : Int} {k : Int → Prop} (a b r : Nat) (ha : x = a) (hb : y = b) (hr : a < 2 ^ r) (h0 : b % 2 ^ r = 0) (ha' : a < 2 ^ kd.bits) (hb' : b < 2 ^ kd.bits) (hs : kd.signed = false) (hk : a + b < 2 ^ kd.bits → k ((a + b : Nat) : Int)) : BitN .or kd x y k := by
  refine BitN.or a b ha hb ha' hb' hs ?_
  rw [or_add hr h0]
  refine hk ?_
  rw [← or_add hr h0]; exact Nat.or_lt_two_pow ha' hb'
theorem BitN.orq {kd : IntKind} {x y : Int} {k : Int → Prop} (a b r : Nat) (ha : x = a) (hb : y = b) (hr : a < 2 ^ r) (h0 : b % 2 ^ r = 0) (ha' : a < 2 ^ kd.bits) (hb' : b < 2 ^ kd.bits) (hs : kd.signed = false) (hk : a + b < 2 ^ kd.bits → k ((a + b : Nat) : Int)) : BitN .or kd y x k := by
  refine BitN.or b a hb ha hb' ha' hs ?_
  rw [Nat.or_comm, or_add hr h0]
  refine hk ?_
  rw [← or_add hr h0]; exact Nat.or_lt_two_pow ha' hb'
end Go.Vc
namespace Go.Dig
theorem evl_drop {b : Nat} {l : List Nat} {k : Nat} (hk : k < l.length) : evl b (l.drop k) = l.getD k 0 + b * evl b (l.drop (k + 1)) := by
  rw [List.drop_eq_getElem_cons hk, evl_cons]; simp [List.getD_eq_getElem?_getD, hk]
theorem drop_set {l : List Nat} {k x : Nat} : (l.set k x).drop (k + 1) = l.drop (k + 1) := by
  apply List.ext_getElem?; intro i
  simp [List.getElem?_set]
  intro h; omega
theorem shl_low {x r : Nat} (hr : r ≤ 31) : x * 2 ^ r % 4294967296 % 2 ^ r = 0 := by
  rw [show (4294967296 : Nat) = 2 ^ r * 2 ^ (32 - r) by rw [← Nat.pow_add, show r + (32 - r) = 32 by omega], Nat.mod_mul_right_mod]
  exact Nat.mul_mod_left _ _
theorem shl_high {x r : Nat} (hx : x < 4294967296) : x * 2 ^ r / 4294967296 < 2 ^ r := by
  rw [Nat.div_lt_iff_lt_mul (by omega), Nat.mul_comm]
  exact Nat.mul_lt_mul_of_pos_left hx (Nat.two_pow_pos r)
/-- a digit of a number shifted right -/
theorem shr_digit {N k r : Nat} (hr : r ≤ 31) : (N / 4294967296 ^ k % 4294967296 + 4294967296 * (N / 4294967296 ^ (k + 1) % 4294967296)) / 2 ^ r % 4294967296 = N / 2 ^ r / 4294967296 ^ k % 4294967296 := by
  have e1 : N / 4294967296 ^ (k + 1) = N / 4294967296 ^ k / 4294967296 := by rw [Nat.pow_succ, Nat.div_div_eq_div_mul]
  rw [e1, show N / 2 ^ r / 4294967296 ^ k = N / 4294967296 ^ k / 2 ^ r by rw [Nat.div_div_eq_div_mul, Nat.mul_comm, ← Nat.div_div_eq_div_mul]]
  generalize N / 4294967296 ^ k = M
  rw [← Nat.mod_mul]
  have e2 : (4294967296 * 4294967296 : Nat) = 2 ^ r * (4294967296 * 2 ^ (32 - r)) := by
    rw [Nat.mul_left_comm, ← Nat.pow_add, show r + (32 - r) = 32 by omega]
  rw [e2, Nat.mod_mul_right_div_self, Nat.mod_mul_right_mod]
/-- the number itself, where no second word is there -/
theorem shr_digit' {N k r : Nat} (hr : r ≤ 31) (h : N / 4294967296 ^ (k + 1) = 0) : N / 4294967296 ^ k % 4294967296 / 2 ^ r % 4294967296 = N / 2 ^ r / 4294967296 ^ k % 4294967296 := by
  rw [← shr_digit hr, h]; rfl
theorem shl_step {b o o' X A s p w : Nat} (h : o = X * w) (hp : p = b) (he : o' = o + b * s) (hs : s = A * w) : o' = (X + p * A) * w := by
  subst h hp he hs; rw [Nat.add_mul, Nat.mul_assoc]
end Go.Dig
