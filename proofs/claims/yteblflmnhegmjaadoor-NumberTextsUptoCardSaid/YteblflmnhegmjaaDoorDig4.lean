/- Long division: what a guessed digit is worth. -/
import Derived.Test.YteblflmnhegmjaaDoorRep2
set_option linter.unusedVariables false
set_option linter.unusedSimpArgs false
namespace Go.Dig

theorem ac1 (q P v B : Nat) : P * B * (q * v) = q * (P * (v * B)) := by ac_rfl
theorem ac2 (P B t : Nat) : P * (t * B) = P * B * t := by ac_rfl
/-- the guess is never too small -/
theorem guess_ge {P top v1 D U dl ul u2 v2 : Nat} (hD : D = dl + P * (v1 * 4294967296 + v2)) (hU : U = ul + P * (top * 4294967296 + u2)) (hul : ul < P) (hu2 : u2 < 4294967296) (hv : 0 < v1) : U / D ≤ top / v1 := by
  have hP : 0 < P := by omega
  rw [Nat.le_div_iff_mul_le hv]
  have h1 : U / D * D ≤ U := Nat.div_mul_le_self _ _
  have h2 : U / D * (P * (v1 * 4294967296)) ≤ U / D * D := by
    refine Nat.mul_le_mul_left _ ?_
    rw [hD, Nat.mul_add]; omega
  have h3 : U < P * ((top + 1) * 4294967296) := by
    rw [hU]
    have : ul + P * (top * 4294967296 + u2) < P * (top * 4294967296 + u2 + 1) := by rw [Nat.mul_add P (top * 4294967296 + u2) 1]; omega
    exact Nat.lt_of_lt_of_le this (Nat.mul_le_mul_left _ (by omega))
  have h4 : P * 4294967296 * (U / D * v1) < P * 4294967296 * (top + 1) := by
    refine Nat.lt_of_le_of_lt (Nat.le_trans (Nat.le_of_eq ?_) (Nat.le_trans h2 h1)) (Nat.lt_of_lt_of_le h3 (Nat.le_of_eq ?_))
    · exact ac1 _ _ _ _
    · exact ac2 _ _ _
  have := Nat.lt_of_mul_lt_mul_left h4
  omega
/-- a guess that the third digits refute is too large -/
theorem guess_gt {P top v1 D U dl ul u2 v2 g rest : Nat} (hD : D = dl + P * (v1 * 4294967296 + v2)) (hU : U = ul + P * (top * 4294967296 + u2)) (hul : ul < P) (hg : g * v1 + rest = top) (h : rest * 4294967296 + u2 < g * v2) : U / D < g := by
  have hP : 0 < P := by omega
  have h1 : top * 4294967296 + u2 < g * (v1 * 4294967296 + v2) := by
    rw [Nat.mul_add, ← Nat.mul_assoc, ← hg, Nat.add_mul, Nat.add_assoc]; exact Nat.add_lt_add_left h _
  have h2 : U < g * D := by
    have a1 : U < P * (top * 4294967296 + u2 + 1) := by rw [hU, Nat.mul_add P (top * 4294967296 + u2) 1]; omega
    have a2 : P * (top * 4294967296 + u2 + 1) ≤ P * (g * (v1 * 4294967296 + v2)) := Nat.mul_le_mul_left _ h1
    have a3 : P * (g * (v1 * 4294967296 + v2)) ≤ g * D := by
      rw [Nat.mul_left_comm P g, hD, Nat.mul_add g]; omega
    omega
  have hD0 : 0 < D := by
    rcases Nat.eq_zero_or_pos D with h0 | h0
    · rw [h0] at h2; simp at h2
    · exact h0
  exact (Nat.div_lt_iff_lt_mul hD0).2 h2
theorem guess_big {D U g : Nat} (hU : U < D * 4294967296) (hg : 4294967296 ≤ g) : U / D < g := by
  have hD0 : 0 < D := by
    rcases Nat.eq_zero_or_pos D with h0 | h0
    · rw [h0] at hU; simp at hU
    · exact h0
  exact Nat.lt_of_lt_of_le ((Nat.div_lt_iff_lt_mul hD0).2 (by rwa [Nat.mul_comm])) hg
/-- a guess that the third digits allow is at most 1 too large -/
theorem guess_le {P top v1 D U dl ul u2 v2 g rest : Nat} (hD : D = dl + P * (v1 * 4294967296 + v2)) (hdl : dl < P) (hU : U = ul + P * (top * 4294967296 + u2)) (hg : g * v1 + rest = top) (hv : 0 < v1) (hgB : g < 4294967296) (h : g * v2 ≤ rest * 4294967296 + u2) : g ≤ U / D + 1 := by
  have hP : 0 < P := by omega
  have h1 : g * (v1 * 4294967296 + v2) ≤ top * 4294967296 + u2 := by
    rw [Nat.mul_add, ← Nat.mul_assoc, ← hg, Nat.add_mul]; omega
  have h0 : P * 4294967296 ≤ D := by
    rw [hD]
    have : P * 4294967296 ≤ P * (v1 * 4294967296 + v2) := Nat.mul_le_mul_left _ (by omega)
    omega
  have hD0 : 0 < D := by omega
  have h2 : g * D ≤ U + g * P := by
    have a1 : g * D ≤ g * (P * (v1 * 4294967296 + v2)) + g * P := by
      rw [← Nat.mul_add]; exact Nat.mul_le_mul_left _ (by omega)
    have a2 : g * (P * (v1 * 4294967296 + v2)) ≤ U := by
      rw [Nat.mul_left_comm, hU]
      exact Nat.le_trans (Nat.mul_le_mul_left _ h1) (by omega)
    omega
  have h3 : g * P < D := by
    have : g * P < 4294967296 * P := (Nat.mul_lt_mul_right hP).2 hgB
    rw [Nat.mul_comm 4294967296 P] at this; omega
  have h4 : g * D < U + D := by omega
  have h5 : (g - 1) * D ≤ U := by rw [Nat.sub_mul]; omega
  have := (Nat.le_div_iff_mul_le hD0).2 h5
  omega
/-- where the rest is a word or more, the guess fits -/
theorem guess_stop {top v1 u1 un g rest : Nat} (hg : g * v1 + rest = top) (ht : top = un * 4294967296 + u1) (hu : u1 < 4294967296) (hun : un ≤ v1) (hr : 4294967296 ≤ rest) : g < 4294967296 := by
  rcases Nat.lt_or_ge g 4294967296 with h | h
  · exact h
  · have := Nat.mul_le_mul_right v1 h
    omega
theorem guess_stop' {v2 g rest u2 : Nat} (hg : g < 4294967296) (hv : v2 < 4294967296) (hr : 4294967296 ≤ rest) : g * v2 ≤ rest * 4294967296 + u2 := by
  have h1 : g * v2 ≤ 4294967296 * v2 := Nat.mul_le_mul_right _ (by omega)
  have h2 : 4294967296 * v2 ≤ 4294967296 * rest := Nat.mul_le_mul_left _ (by omega)
  omega
theorem guess_next {g v1 rest top : Nat} (h0 : 0 < g) (hg : g * v1 + rest = top) : (g - 1) * v1 + (rest + v1) = top := by
  obtain ⟨g, rfl⟩ : ∃ k, g = k + 1 := ⟨g - 1, by omega⟩
  rw [Nat.add_mul] at hg; simp only [Nat.add_sub_cancel]; omega
/-- the digit, and what is left -/
theorem digit_end {U D g q E X : Nat} (hD : 0 < D) (hq : q = U / D) (h1 : q ≤ g) (h2 : g ≤ q + 1) (hE : X + g * D = U + E) (hX : X < E ∨ E = 0) : (E = 0 → g = q ∧ X = U % D) ∧ (0 < E → g = q + 1 ∧ X + D = E + U % D) := by
  have hm := Nat.div_add_mod U D
  rw [← hq] at hm
  rw [Nat.mul_comm] at hm
  rcases Nat.eq_or_lt_of_le h1 with h | h
  · subst h
    constructor
    · rintro rfl; exact ⟨rfl, by omega⟩
    · intro h0
      rcases hX with hX | hX <;> omega
  · have : g = q + 1 := by omega
    subst this
    rw [Nat.add_mul, Nat.one_mul] at hE
    refine ⟨fun h0 => ?_, fun h0 => ⟨rfl, by omega⟩⟩
    have := Nat.mod_lt U hD
    omega
theorem evl_div {b : Nat} (hb : 2 ≤ b) {l : List Nat} (h : ∀ x ∈ l, x < b) (k : Nat) : evl b (l.drop k) = evl b l / b ^ k := by
  rcases Nat.lt_or_ge k l.length with hk | hk
  · have e := evl_append b (l.take k) (l.drop k)
    rw [List.take_append_drop] at e
    have hl : (l.take k).length = k := by simp; omega
    have hlt := evl_lt hb (l := l.take k) fun x hx => h x (List.mem_of_mem_take hx)
    rw [hl] at e hlt
    rw [e, Nat.add_mul_div_left _ _ (Nat.pow_pos (by omega)), Nat.div_eq_of_lt hlt, Nat.zero_add]
  · rw [List.drop_eq_nil_of_le hk, evl_nil, Nat.div_eq_of_lt]
    exact Nat.lt_of_lt_of_le (evl_lt hb h) (Nat.pow_le_pow_right (by omega) hk)
theorem getD_of_drop {l m : List Nat} {k j : Nat} (h : l.drop k = m.drop k) (hj : k ≤ j) : l.getD j 0 = m.getD j 0 := by
  have := congrArg (fun x => x.getD (j - k) 0) h
  simpa [List.getD_eq_getElem?_getD, List.getElem?_drop, show k + (j - k) = j by omega] using this
theorem drop_of_drop {l m : List Nat} {k x : Nat} (h : l.drop k = m.drop k) : (l.set k x).drop (k + 1) = m.drop (k + 1) := by
  rw [drop_set, ← List.drop_drop (i := 1) (j := k), h, List.drop_drop]
theorem evl_split {b : Nat} {l : List Nat} {k : Nat} (hk : k ≤ l.length) : evl b l = evl b (l.take k) + b ^ k * evl b (l.drop k) := by
  have e := evl_append b (l.take k) (l.drop k)
  rw [List.take_append_drop] at e
  rwa [show (l.take k).length = k by simp; omega] at e
end Go.Dig

/- Long division: the divisor's first digit is made large. -/
namespace Go.Dig

theorem bl_pos_iff {n : Nat} : 1 ≤ bl n ↔ n ≠ 0 := by
  constructor
  · rintro h rfl; rw [bl_zero] at h; omega
  · intro h; rw [bl_pos h]; omega
theorem norm {p n L t s : Nat} (hp : 1 ≤ p) (hn : n ≠ 0) (hL : L = ln (2 ^ p) n) (ht : t = (dg (2 ^ p) n).getD (L - 1) 0) (hs : s = p - bl t) :
    ln (2 ^ p) (n * 2 ^ s) = L ∧ 2 ^ (p - 1) ≤ (dg (2 ^ p) (n * 2 ^ s)).getD (L - 1) 0 ∧ bl t ≤ p ∧ 1 ≤ bl t ∧ 1 ≤ L := by
  have hb : 2 ≤ 2 ^ p := by have : 2 ^ 1 ≤ 2 ^ p := Nat.pow_le_pow_right (by omega) hp; omega
  have hL1 : 1 ≤ L := by rw [hL]; exact Nat.pos_of_ne_zero fun h => hn ((ln_eq_zero hb).1 h)
  have ht1 : bl t ≤ p := bl_le_iff.2 (by rw [ht]; exact dg_getD_lt hb _ _)
  have hbl := bl_dg hp hn
  rw [← hL, ← ht] at hbl
  have hne : dg (2 ^ p) n ≠ [] := fun h => hn ((dg_nil hb).1 h)
  have ht2 : 1 ≤ bl t := bl_pos_iff.2 (by
    have := dg_last hb n hne
    rw [List.getLast_eq_getElem] at this
    rw [ht, hL]; unfold ln; rw [List.getD_eq_getElem?_getD, List.getElem?_eq_getElem (by have := List.length_pos_iff.2 hne; omega)]
    exact this)
  have e1 : (2 ^ p) ^ (L - 1) * 2 ^ (p - 1) ≤ n * 2 ^ s := by
    rw [← Nat.pow_mul, ← Nat.pow_add, show p * (L - 1) + (p - 1) = (bl n - 1) + s by omega, Nat.pow_add]
    exact Nat.mul_le_mul_right _ (le_bl hn)
  have e2 : n * 2 ^ s < (2 ^ p) ^ (L - 1) * 2 ^ p := by
    rw [← Nat.pow_mul, ← Nat.pow_add, show p * (L - 1) + p = bl n + s by omega, Nat.pow_add]
    exact Nat.mul_lt_mul_of_pos_right (lt_bl n) (Nat.two_pow_pos _)
  have hP : 0 < (2 ^ p) ^ (L - 1) := Nat.pow_pos (by omega)
  refine ⟨?_, ?_, ht1, ht2, hL1⟩
  · have u : ln (2 ^ p) (n * 2 ^ s) ≤ L := (ln_le_iff hb).2 (by
      rw [show L = L - 1 + 1 by omega, Nat.pow_succ]; exact e2)
    have l : ¬ ln (2 ^ p) (n * 2 ^ s) ≤ L - 1 := fun h => by
      have h1 := (ln_le_iff hb).1 h
      have : (2 ^ p) ^ (L - 1) * 1 ≤ (2 ^ p) ^ (L - 1) * 2 ^ (p - 1) := Nat.mul_le_mul_left _ (Nat.two_pow_pos _)
      omega
    omega
  · rw [dg_getD hb, Nat.mod_eq_of_lt ((Nat.div_lt_iff_lt_mul hP).2 (by rw [Nat.mul_comm (2 ^ p)]; exact e2)), Nat.le_div_iff_mul_le hP, Nat.mul_comm]
    exact e1
theorem norm32 {n L t s : Nat} (hn : n ≠ 0) (hL : L = ln 4294967296 n) (ht : t = (dg 4294967296 n).getD (L - 1) 0) (hs : s = 32 - bl t) :
    ln 4294967296 (n * 2 ^ s) = L ∧ 2147483648 ≤ (dg 4294967296 (n * 2 ^ s)).getD (L - 1) 0 ∧ bl t ≤ 32 ∧ 1 ≤ bl t ∧ 1 ≤ L := by
  have e : (4294967296 : Nat) = 2 ^ 32 := by decide
  rw [e] at hL ht ⊢
  have := norm (p := 32) (by omega) hn hL ht hs
  simpa using this
/-- what stands above the last place at the start -/
theorem div_start {b m n s la lb : Nat} (hb : 2 ≤ b) (hla : m < b ^ la) (hlb : b ^ (lb - 1) ≤ n) (h1 : 1 ≤ lb) (hle : lb ≤ la) : m * 2 ^ s / b ^ (la - lb + 1) < n * 2 ^ s := by
  rw [Nat.div_lt_iff_lt_mul (Nat.pow_pos (by omega))]
  have e : b ^ la = b ^ (la - lb + 1) * b ^ (lb - 1) := by rw [← Nat.pow_add]; congr 1; omega
  have h2 : m * 2 ^ s < b ^ la * 2 ^ s := Nat.mul_lt_mul_of_pos_right hla (Nat.two_pow_pos _)
  have h3 : b ^ la * 2 ^ s ≤ n * 2 ^ s * b ^ (la - lb + 1) := by
    rw [e, Nat.mul_comm (b ^ (la - lb + 1)), Nat.mul_right_comm]
    exact Nat.mul_le_mul_right _ (Nat.mul_le_mul_right _ hlb)
  omega
/-- one digit of the quotient -/
theorem div_step {b o0 o1 U D E Q q r x : Nat} (h : o1 + D * Q = o0) (hU : U = x + b * o1) (hE : E = x + b * o0) (hq : U = q * D + r) : r + D * (q + b * Q) = E := by
  have h1 : D * (q + b * Q) = q * D + b * (D * Q) := by rw [Nat.mul_add, Nat.mul_comm D q, Nat.mul_left_comm]
  have h2 : b * o0 = b * o1 + b * (D * Q) := by rw [← h, Nat.mul_add]
  rw [h1]; omega
theorem div_fin {m n s X Q : Nat} (h : X + n * 2 ^ s * Q = m * 2 ^ s) (hX : X < n * 2 ^ s) : Q = m / n ∧ X / 2 ^ s = m % n ∧ X = m % n * 2 ^ s := by
  have hs := Nat.two_pow_pos s
  have hn : 0 < n * 2 ^ s := by omega
  have hn0 : 0 < n := Nat.pos_of_mul_pos_right hn
  have e1 : Q = m * 2 ^ s / (n * 2 ^ s) := by rw [← h, Nat.add_mul_div_left _ _ hn, Nat.div_eq_of_lt hX, Nat.zero_add]
  have e2 : X = m * 2 ^ s % (n * 2 ^ s) := by rw [← h, Nat.add_mul_mod_self_left, Nat.mod_eq_of_lt hX]
  rw [Nat.mul_div_mul_right _ _ hs] at e1
  rw [Nat.mul_mod_mul_right] at e2
  exact ⟨e1, by rw [e2, Nat.mul_div_cancel _ hs], e2⟩
theorem drop_lt {b : Nat} {l : List Nat} {k : Nat} (h : ∀ x ∈ l, x < b) : ∀ x ∈ l.drop k, x < b := fun x hx => h x (List.mem_of_mem_drop hx)
end Go.Dig
