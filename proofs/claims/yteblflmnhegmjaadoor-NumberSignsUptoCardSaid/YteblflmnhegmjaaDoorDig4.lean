/- Long division: the divisor's first digit is made large. -/
import Derived.Test.YteblflmnhegmjaaDoorDig3
set_option linter.unusedVariables false
set_option linter.unusedSimpArgs false
namespace Go.Dig

theorem bl_pos_iff {n : Nat} : 1 ≤ bl n ↔ n ≠ 0 := by
  constructor
  · rintro h rfl; rw [bl_zero] at h; omega
  · intro h; rw [bl_pos h]; omega
theorem norm {p n L t s : Nat} (hp : 1 ≤ p) (hn : n ≠ 0) (hL : L = ln (2 ^ p) n) (ht : t = (dg (2 ^ p) n).getD (L - 1) 0) (hs : s = p - bl t) :
    ln (2 ^ p) (n * 2 ^ s) = L ∧ 2 ^ (p - 1) ≤ (dg (2 ^ p) (n * 2 ^ s)).getD (L - 1) 0 ∧ bl t ≤ p ∧ 1 ≤ bl t ∧ 1 ≤ L := by
  have hb : 2 ≤ 2 ^ p := by have : 2 ^ 1 ≤ 2 ^ p := Nat.pow_le_pow_right (by omega) hp; omega
  have hL1 : 1 ≤ L := by rw [hL]; exact Nat.pos_of_ne_zero fun h => hn ((ln_eq_zero hb).1 h)
  have ht1 : bl t ≤ p := bl_le_iff.2 (by rw [ht]; exact dg_getD_lt hb _ _)
  have hbl := bl_dg hp hn
  rw [← hL, ← ht] at hbl
  have hne : dg (2 ^ p) n ≠ [] := fun h => hn ((dg_nil hb).1 h)
  have ht2 : 1 ≤ bl t := bl_pos_iff.2 (by
    have := dg_last hb n hne
    rw [List.getLast_eq_getElem] at this
    rw [ht, hL]; unfold ln; rw [List.getD_eq_getElem?_getD, List.getElem?_eq_getElem (by have := List.length_pos_iff.2 hne; omega)]
    exact this)
  have e1 : (2 ^ p) ^ (L - 1) * 2 ^ (p - 1) ≤ n * 2 ^ s := by
    rw [← Nat.pow_mul, ← Nat.pow_add, show p * (L - 1) + (p - 1) = (bl n - 1) + s by omega, Nat.pow_add]
    exact Nat.mul_le_mul_right _ (le_bl hn)
  have e2 : n * 2 ^ s < (2 ^ p) ^ (L - 1) * 2 ^ p := by
    rw [← Nat.pow_mul, ← Nat.pow_add, show p * (L - 1) + p = bl n + s by omega, Nat.pow_add]
    exact Nat.mul_lt_mul_of_pos_right (lt_bl n) (Nat.two_pow_pos _)
  have hP : 0 < (2 ^ p) ^ (L - 1) := Nat.pow_pos (by omega)
  refine ⟨?_, ?_, ht1, ht2, hL1⟩
  · have u : ln (2 ^ p) (n * 2 ^ s) ≤ L := (ln_le_iff hb).2 (by
      rw [show L = L - 1 + 1 by omega, Nat.pow_succ]; exact e2)
    have l : ¬ ln (2 ^ p) (n * 2 ^ s) ≤ L - 1 := fun h => by
      have h1 := (ln_le_iff hb).1 h
      have : (2 ^ p) ^ (L - 1) * 1 ≤ (2 ^ p) ^ (L - 1) * 2 ^ (p - 1) := Nat.mul_le_mul_left _ (Nat.two_pow_pos _)
      omega
    omega
  · rw [dg_getD hb, Nat.mod_eq_of_lt ((Nat.div_lt_iff_lt_mul hP).2 (by rw [Nat.mul_comm (2 ^ p)]; exact e2)), Nat.le_div_iff_mul_le hP, Nat.mul_comm]
    exact e1
theorem norm32 {n L t s : Nat} (hn : n ≠ 0) (hL : L = ln 4294967296 n) (ht : t = (dg 4294967296 n).getD (L - 1) 0) (hs : s = 32 - bl t) :
    ln 4294967296 (n * 2 ^ s) = L ∧ 2147483648 ≤ (dg 4294967296 (n * 2 ^ s)).getD (L - 1) 0 ∧ bl t ≤ 32 ∧ 1 ≤ bl t ∧ 1 ≤ L := by
  have e : (4294967296 : Nat) = 2 ^ 32 := by decide
  rw [e] at hL ht ⊢
  have := norm (p := 32) (by omega) hn hL ht hs
  simpa using this
/-- what stands above the last place at the start -/
theorem div_start {b m n s la lb : Nat} (hb : 2 ≤ b) (hla : m < b ^ la) (hlb : b ^ (lb - 1) ≤ n) (h1 : 1 ≤ lb) (hle : lb ≤ la) : m * 2 ^ s / b ^ (la - lb + 1) < n * 2 ^ s := by
  rw [Nat.div_lt_iff_lt_mul (Nat.pow_pos (by omega))]
  have e : b ^ la = b ^ (la - lb + 1) * b ^ (lb - 1) := by rw [← Nat.pow_add]; congr 1; omega
  have h2 : m * 2 ^ s < b ^ la * 2 ^ s := Nat.mul_lt_mul_of_pos_right hla (Nat.two_pow_pos _)
  have h3 : b ^ la * 2 ^ s ≤ n * 2 ^ s * b ^ (la - lb + 1) := by
    rw [e, Nat.mul_comm (b ^ (la - lb + 1)), Nat.mul_right_comm]
    exact Nat.mul_le_mul_right _ (Nat.mul_le_mul_right _ hlb)
  omega
/-- one digit of the quotient -/
theorem div_step {b o0 o1 U D E Q q r x : Nat} (h : o1 + D * Q = o0) (hU : U = x + b * o1) (hE : E = x + b * o0) (hq : U = q * D + r) : r + D * (q + b * Q) = E := by
  have h1 : D * (q + b * Q) = q * D + b * (D * Q) := by rw [Nat.mul_add, Nat.mul_comm D q, Nat.mul_left_comm]
  have h2 : b * o0 = b * o1 + b * (D * Q) := by rw [← h, Nat.mul_add]
  rw [h1]; omega
theorem div_fin {m n s X Q : Nat} (h : X + n * 2 ^ s * Q = m * 2 ^ s) (hX : X < n * 2 ^ s) : Q = m / n ∧ X / 2 ^ s = m % n ∧ X = m % n * 2 ^ s := by
  have hs := Nat.two_pow_pos s
  have hn : 0 < n * 2 ^ s := by omega
  have hn0 : 0 < n := Nat.pos_of_mul_pos_right hn
  have e1 : Q = m * 2 ^ s / (n * 2 ^ s) := by rw [← h, Nat.add_mul_div_left _ _ hn, Nat.div_eq_of_lt hX, Nat.zero_add]
  have e2 : X = m * 2 ^ s % (n * 2 ^ s) := by rw [← h, Nat.add_mul_mod_self_left, Nat.mod_eq_of_lt hX]
  rw [Nat.mul_div_mul_right _ _ hs] at e1
  rw [Nat.mul_mod_mul_right] at e2
  exact ⟨e1, by rw [e2, Nat.mul_div_cancel _ hs], e2⟩
theorem drop_lt {b : Nat} {l : List Nat} {k : Nat} (h : ∀ x ∈ l, x < b) : ∀ x ∈ l.drop k, x < b := fun x hx => h x (List.mem_of_mem_drop hx)
end Go.Dig
