/- Long division: what a guessed digit is worth. -/
import Derived.Test.YtdemgbmndijkkaaGreatDoorW4
import Derived.Test.YtdemgbmndijkkaaGreatDoorRepA
set_option linter.unusedVariables false
set_option linter.unusedSimpArgs false
namespace Go.Dig

theorem ac1 (q P v B : Nat) : P * B * (q * v) = q * (P * (v * B)) := by ac_rfl
theorem ac2 (P B t : Nat) : P * (t * B) = P * B * t := by ac_rfl
/-- the guess is never too small -/
theorem guess_ge {P top v1 D U dl ul u2 v2 : Nat} (hD : D = dl + P * (v1 * 4294967296 + v2)) (hU : U = ul + P * (top * 4294967296 + u2)) (hul : ul < P) (hu2 : u2 < 4294967296) (hv : 0 < v1) : U / D ≤ top / v1 := by
  have hP : 0 < P := by omega
  rw [Nat.le_div_iff_mul_le hv]
  have h1 : U / D * D ≤ U := Nat.div_mul_le_self _ _
  have h2 : U / D * (P * (v1 * 4294967296)) ≤ U / D * D := by
    refine Nat.mul_le_mul_left _ ?_
    rw [hD, Nat.mul_add]; omega
  have h3 : U < P * ((top + 1) * 4294967296) := by
    rw [hU]
    have : ul + P * (top * 4294967296 + u2) < P * (top * 4294967296 + u2 + 1) := by rw [Nat.mul_add P (top * 4294967296 + u2) 1]; omega
    exact Nat.lt_of_lt_of_le this (Nat.mul_le_mul_left _ (by omega))
  have h4 : P * 4294967296 * (U / D * v1) < P * 4294967296 * (top + 1) := by
    refine Nat.lt_of_le_of_lt (Nat.le_trans (Nat.le_of_eq ?_) (Nat.le_trans h2 h1)) (Nat.lt_of_lt_of_le h3 (Nat.le_of_eq ?_))
    · exact ac1 _ _ _ _
    · exact ac2 _ _ _
  have := Nat.lt_of_mul_lt_mul_left h4
  omega
/-- a guess that the third digits refute is too large -/
theorem guess_gt {P top v1 D U dl ul u2 v2 g rest : Nat} (hD : D = dl + P * (v1 * 4294967296 + v2)) (hU : U = ul + P * (top * 4294967296 + u2)) (hul : ul < P) (hg : g * v1 + rest = top) (h : rest * 4294967296 + u2 < g * v2) : U / D < g := by
  have hP : 0 < P := by omega
  have h1 : top * 4294967296 + u2 < g * (v1 * 4294967296 + v2) := by
    rw [Nat.mul_add, ← Nat.mul_assoc, ← hg, Nat.add_mul, Nat.add_assoc]; exact Nat.add_lt_add_left h _
  have h2 : U < g * D := by
    have a1 : U < P * (top * 4294967296 + u2 + 1) := by rw [hU, Nat.mul_add P (top * 4294967296 + u2) 1]; omega
    have a2 : P * (top * 4294967296 + u2 + 1) ≤ P * (g * (v1 * 4294967296 + v2)) := Nat.mul_le_mul_left _ h1
    have a3 : P * (g * (v1 * 4294967296 + v2)) ≤ g * D := by
      rw [Nat.mul_left_comm P g, hD, Nat.mul_add g]; omega
    omega
  have hD0 : 0 < D := by
    rcases Nat.eq_zero_or_pos D with h0 | h0
    · rw [h0] at h2; simp at h2
    · exact h0
  exact (Nat.div_lt_iff_lt_mul hD0).2 h2
theorem guess_big {D U g : Nat} (hU : U < D * 4294967296) (hg : 4294967296 ≤ g) : U / D < g := by
  have hD0 : 0 < D := by
    rcases Nat.eq_zero_or_pos D with h0 | h0
    · rw [h0] at hU; simp at hU
    · exact h0
  exact Nat.lt_of_lt_of_le ((Nat.div_lt_iff_lt_mul hD0).2 (by rwa [Nat.mul_comm])) hg
/-- a guess that the third digits allow is at most 1 too large -/
theorem guess_le {P top v1 D U dl ul u2 v2 g rest : Nat} (hD : D = dl + P * (v1 * 4294967296 + v2)) (hdl : dl < P) (hU : U = ul + P * (top * 4294967296 + u2)) (hg : g * v1 + rest = top) (hv : 0 < v1) (hgB : g < 4294967296) (h : g * v2 ≤ rest * 4294967296 + u2) : g ≤ U / D + 1 := by
  have hP : 0 < P := by omega
  have h1 : g * (v1 * 4294967296 + v2) ≤ top * 4294967296 + u2 := by
    rw [Nat.mul_add, ← Nat.mul_assoc, ← hg, Nat.add_mul]; omega
  have h0 : P * 4294967296 ≤ D := by
    rw [hD]
    have : P * 4294967296 ≤ P * (v1 * 4294967296 + v2) := Nat.mul_le_mul_left _ (by omega)
    omega
  have hD0 : 0 < D := by omega
  have h2 : g * D ≤ U + g * P := by
    have a1 : g * D ≤ g * (P * (v1 * 4294967296 + v2)) + g * P := by
      rw [← Nat.mul_add]; exact Nat.mul_le_mul_left _ (by omega)
    have a2 : g * (P * (v1 * 4294967296 + v2)) ≤ U := by
      rw [Nat.mul_left_comm, hU]
      exact Nat.le_trans (Nat.mul_le_mul_left _ h1) (by omega)
    omega
  have h3 : g * P < D := by
    have : g * P < 4294967296 * P := (Nat.mul_lt_mul_right hP).2 hgB
    rw [Nat.mul_comm 4294967296 P] at this; omega
  have h4 : g * D < U + D := by omega
  have h5 : (g - 1) * D ≤ U := by rw [Nat.sub_mul]; omega
  have := (Nat.le_div_iff_mul_le hD0).2 h5
  omega
/-- where the rest is a word or more, the guess fits -/
theorem guess_stop {top v1 u1 un g rest : Nat} (hg : g * v1 + rest = top) (ht : top = un * 4294967296 + u1) (hu : u1 < 4294967296) (hun : un ≤ v1) (hr : 4294967296 ≤ rest) : g < 4294967296 := by
  rcases Nat.lt_or_ge g 4294967296 with h | h
  · exact h
  · have := Nat.mul_le_mul_right v1 h
    omega
theorem guess_stop' {v2 g rest u2 : Nat} (hg : g < 4294967296) (hv : v2 < 4294967296) (hr : 4294967296 ≤ rest) : g * v2 ≤ rest * 4294967296 + u2 := by
  have h1 : g * v2 ≤ 4294967296 * v2 := Nat.mul_le_mul_right _ (by omega)
  have h2 : 4294967296 * v2 ≤ 4294967296 * rest := Nat.mul_le_mul_left _ (by omega)
  omega
theorem guess_next {g v1 rest top : Nat} (h0 : 0 < g) (hg : g * v1 + rest = top) : (g - 1) * v1 + (rest + v1) = top := by
  obtain ⟨g, rfl⟩ : ∃ k, g = k + 1 := ⟨g - 1, by omega⟩
  rw [Nat.add_mul] at hg; simp only [Nat.add_sub_cancel]; omega
/-- the digit, and what is left -/
theorem digit_end {U D g q E X : Nat} (hD : 0 < D) (hq : q = U / D) (h1 : q ≤ g) (h2 : g ≤ q + 1) (hE : X + g * D = U + E) (hX : X < E ∨ E = 0) : (E = 0 → g = q ∧ X = U % D) ∧ (0 < E → g = q + 1 ∧ X + D = E + U % D) := by
  have hm := Nat.div_add_mod U D
  rw [← hq] at hm
  rw [Nat.mul_comm] at hm
  rcases Nat.eq_or_lt_of_le h1 with h | h
  · subst h
    constructor
    · rintro rfl; exact ⟨rfl, by omega⟩
    · intro h0
      rcases hX with hX | hX <;> omega
  · have : g = q + 1 := by omega
    subst this
    rw [Nat.add_mul, Nat.one_mul] at hE
    refine ⟨fun h0 => ?_, fun h0 => ⟨rfl, by omega⟩⟩
    have := Nat.mod_lt U hD
    omega
theorem evl_div {b : Nat} (hb : 2 ≤ b) {l : List Nat} (h : ∀ x ∈ l, x < b) (k : Nat) : evl b (l.drop k) = evl b l / b ^ k := by
  rcases Nat.lt_or_ge k l.length with hk | hk
  · have e := evl_append b (l.take k) (l.drop k)
    rw [List.take_append_drop] at e
    have hl : (l.take k).length = k := by simp; omega
    have hlt := evl_lt hb (l := l.take k) fun x hx => h x (List.mem_of_mem_take hx)
    rw [hl] at e hlt
    rw [e, Nat.add_mul_div_left _ _ (Nat.pow_pos (by omega)), Nat.div_eq_of_lt hlt, Nat.zero_add]
  · rw [List.drop_eq_nil_of_le hk, evl_nil, Nat.div_eq_of_lt]
    exact Nat.lt_of_lt_of_le (evl_lt hb h) (Nat.pow_le_pow_right (by omega) hk)
theorem getD_of_drop {l m : List Nat} {k j : Nat} (h : l.drop k = m.drop k) (hj : k ≤ j) : l.getD j 0 = m.getD j 0 := by
  have := congrArg (fun x => x.getD (j - k) 0) h
  simpa [List.getD_eq_getElem?_getD, List.getElem?_drop, show k + (j - k) = j by omega] using this
theorem drop_of_drop {l m : List Nat} {k x : Nat} (h : l.drop k = m.drop k) : (l.set k x).drop (k + 1) = m.drop (k + 1) := by
  rw [drop_set, ← List.drop_drop (i := 1) (j := k), h, List.drop_drop]
theorem evl_split {b : Nat} {l : List Nat} {k : Nat} (hk : k ≤ l.length) : evl b l = evl b (l.take k) + b ^ k * evl b (l.drop k) := by
  have e := evl_append b (l.take k) (l.drop k)
  rw [List.take_append_drop] at e
  rwa [show (l.take k).length = k by simp; omega] at e
end Go.Dig
/- Long division: the divisor's first digit is made large. -/
namespace Go.Dig

theorem bl_pos_iff {n : Nat} : 1 ≤ bl n ↔ n ≠ 0 := by
  constructor
  · rintro h rfl; rw [bl_zero] at h; omega
  · intro h; rw [bl_pos h]; omega
theorem norm {p n L t s : Nat} (hp : 1 ≤ p) (hn : n ≠ 0) (hL : L = ln (2 ^ p) n) (ht : t = (dg (2 ^ p) n).getD (L - 1) 0) (hs : s = p - bl t) :
    ln (2 ^ p) (n * 2 ^ s) = L ∧ 2 ^ (p - 1) ≤ (dg (2 ^ p) (n * 2 ^ s)).getD (L - 1) 0 ∧ bl t ≤ p ∧ 1 ≤ bl t ∧ 1 ≤ L := by
  have hb : 2 ≤ 2 ^ p := by have : 2 ^ 1 ≤ 2 ^ p := Nat.pow_le_pow_right (by omega) hp; omega
  have hL1 : 1 ≤ L := by rw [hL]; exact Nat.pos_of_ne_zero fun h => hn ((ln_eq_zero hb).1 h)
  have ht1 : bl t ≤ p := bl_le_iff.2 (by rw [ht]; exact dg_getD_lt hb _ _)
  have hbl := bl_dg hp hn
  rw [← hL, ← ht] at hbl
  have hne : dg (2 ^ p) n ≠ [] := fun h => hn ((dg_nil hb).1 h)
  have ht2 : 1 ≤ bl t := bl_pos_iff.2 (by
    have := dg_last hb n hne
    rw [List.getLast_eq_getElem] at this
    rw [ht, hL]; unfold ln; rw [List.getD_eq_getElem?_getD, List.getElem?_eq_getElem (by have := List.length_pos_iff.2 hne; omega)]
    exact this)
  have e1 : (2 ^ p) ^ (L - 1) * 2 ^ (p - 1) ≤ n * 2 ^ s := by
    rw [← Nat.pow_mul, ← Nat.pow_add, show p * (L - 1) + (p - 1) = (bl n - 1) + s by omega, Nat.pow_add]
    exact Nat.mul_le_mul_right _ (le_bl hn)
  have e2 : n * 2 ^ s < (2 ^ p) ^ (L - 1) * 2 ^ p := by
    rw [← Nat.pow_mul, ← Nat.pow_add, show p * (L - 1) + p = bl n + s by omega, Nat.pow_add]
    exact Nat.mul_lt_mul_of_pos_right (lt_bl n) (Nat.two_pow_pos _)
  have hP : 0 < (2 ^ p) ^ (L - 1) := Nat.pow_pos (by omega)
  refine ⟨?_, ?_, ht1, ht2, hL1⟩
  · have u : ln (2 ^ p) (n * 2 ^ s) ≤ L := (ln_le_iff hb).2 (by
      rw [show L = L - 1 + 1 by omega, Nat.pow_succ]; exact e2)
    have l : ¬ ln (2 ^ p) (n * 2 ^ s) ≤ L - 1 := fun h => by
      have h1 := (ln_le_iff hb).1 h
      have : (2 ^ p) ^ (L - 1) * 1 ≤ (2 ^ p) ^ (L - 1) * 2 ^ (p - 1) := Nat.mul_le_mul_left _ (Nat.two_pow_pos _)
      omega
    omega
  · rw [dg_getD hb, Nat.mod_eq_of_lt ((Nat.div_lt_iff_lt_mul hP).2 (by rw [Nat.mul_comm (2 ^ p)]; exact e2)), Nat.le_div_iff_mul_le hP, Nat.mul_comm]
    exact e1
theorem norm32 {n L t s : Nat} (hn : n ≠ 0) (hL : L = ln 4294967296 n) (ht : t = (dg 4294967296 n).getD (L - 1) 0) (hs : s = 32 - bl t) :
    ln 4294967296 (n * 2 ^ s) = L ∧ 2147483648 ≤ (dg 4294967296 (n * 2 ^ s)).getD (L - 1) 0 ∧ bl t ≤ 32 ∧ 1 ≤ bl t ∧ 1 ≤ L := by
  have e : (4294967296 : Nat) = 2 ^ 32 := by decide
  rw [e] at hL ht ⊢
  have := norm (p := 32) (by omega) hn hL ht hs
  simpa using this
/-- what stands above the last place at the start -/
theorem div_start {b m n s la lb : Nat} (hb : 2 ≤ b) (hla : m < b ^ la) (hlb : b ^ (lb - 1) ≤ n) (h1 : 1 ≤ lb) (hle : lb ≤ la) : m * 2 ^ s / b ^ (la - lb + 1) < n * 2 ^ s := by
  rw [Nat.div_lt_iff_lt_mul (Nat.pow_pos (by omega))]
  have e : b ^ la = b ^ (la - lb + 1) * b ^ (lb - 1) := by rw [← Nat.pow_add]; congr 1; omega
  have h2 : m * 2 ^ s < b ^ la * 2 ^ s := Nat.mul_lt_mul_of_pos_right hla (Nat.two_pow_pos _)
  have h3 : b ^ la * 2 ^ s ≤ n * 2 ^ s * b ^ (la - lb + 1) := by
    rw [e, Nat.mul_comm (b ^ (la - lb + 1)), Nat.mul_right_comm]
    exact Nat.mul_le_mul_right _ (Nat.mul_le_mul_right _ hlb)
  omega
/-- one digit of the quotient -/
theorem div_step {b o0 o1 U D E Q q r x : Nat} (h : o1 + D * Q = o0) (hU : U = x + b * o1) (hE : E = x + b * o0) (hq : U = q * D + r) : r + D * (q + b * Q) = E := by
  have h1 : D * (q + b * Q) = q * D + b * (D * Q) := by rw [Nat.mul_add, Nat.mul_comm D q, Nat.mul_left_comm]
  have h2 : b * o0 = b * o1 + b * (D * Q) := by rw [← h, Nat.mul_add]
  rw [h1]; omega
theorem div_fin {m n s X Q : Nat} (h : X + n * 2 ^ s * Q = m * 2 ^ s) (hX : X < n * 2 ^ s) : Q = m / n ∧ X / 2 ^ s = m % n ∧ X = m % n * 2 ^ s := by
  have hs := Nat.two_pow_pos s
  have hn : 0 < n * 2 ^ s := by omega
  have hn0 : 0 < n := Nat.pos_of_mul_pos_right hn
  have e1 : Q = m * 2 ^ s / (n * 2 ^ s) := by rw [← h, Nat.add_mul_div_left _ _ hn, Nat.div_eq_of_lt hX, Nat.zero_add]
  have e2 : X = m * 2 ^ s % (n * 2 ^ s) := by rw [← h, Nat.add_mul_mod_self_left, Nat.mod_eq_of_lt hX]
  rw [Nat.mul_div_mul_right _ _ hs] at e1
  rw [Nat.mul_mod_mul_right] at e2
  exact ⟨e1, by rw [e2, Nat.mul_div_cancel _ hs], e2⟩
theorem drop_lt {b : Nat} {l : List Nat} {k : Nat} (h : ∀ x ∈ l, x < b) : ∀ x ∈ l.drop k, x < b := fun x hx => h x (List.mem_of_mem_drop hx)
end Go.Dig
/- Contracts of package word's functions on natural numbers, fifth part: one digit of long division. -/
namespace Go.Vc
open Go Go.Dig
theorem win_get {p u : List Nat} {i : Nat} (ho : i < u.length) : (p ++ u).getD (p.length + i) 0 = u.getD i 0 := by
  simp [List.getD_eq_getElem?_getD, List.getElem?_append_right]
theorem win_set {p u : List Nat} {i x : Nat} : (p ++ u).set (p.length + i) x = p ++ u.set i x := by
  rw [List.set_append_right _ _ (by omega)]; congr 2; omega
theorem Ld.win {h : Heap} {L : Own} {b i : Nat} {k : Value → Prop} {kd : IntKind} {T : TypeId} {p u : List Nat} (n : Nat) (hb : L[n]? = some (b, Row kd T (p ++ u))) (ho : i < u.length) (hk : k (.int kd ((u.getD i 0 : Nat) : Int))) : Ld h L ⟨b, p.length + i, none⟩ k :=
  Ld.ws n hb (by simp; omega) (by rw [win_get ho]; exact hk)
theorem Sto.win {L : Own} {b i : Nat} {kd : IntKind} {T : TypeId} {p u : List Nat} {v : Int} {k : Own → Prop} (n : Nat) (hb : L[n]? = some (b, Row kd T (p ++ u))) (x : Nat) (hx : v = x) (hl : i < u.length)
    (hk : setK (b, Row kd T (p ++ u.set i x)) L n k) : Sto L ⟨b, p.length + i, none⟩ [.int kd v] k :=
  Sto.ws n hb x hx (by simp; omega) (by rw [win_set]; exact hk)
theorem Sto.winE {L : Own} {b i : Nat} {kd : IntKind} {T : TypeId} {p u : List Nat} {v : Int} {k : Own → Prop} (n : Nat) (hb : L[n]? = some (b, Row kd T (p ++ u))) (hl : i < u.length)
    (hk : ∀ x : Nat, (x : Int) = v → setK (b, Row kd T (p ++ u.set i x)) L n k) (h0 : 0 ≤ v := by omega) : Sto L ⟨b, p.length + i, none⟩ [.int kd v] k := by
  obtain ⟨x, hx⟩ : ∃ x : Nat, (x : Int) = v := ⟨v.toNat, Int.toNat_of_nonneg h0⟩
  exact Sto.win n hb x hx.symm hl (hk x hx)
theorem ShlN.w32 {x : Nat} {k : Int → Prop} (hx : x < 4294967296) (hk : k ((x * 4294967296 : Nat) : Int)) : ShlN .u64 (x : Int) 32 k := by
  refine ShlN.mk' 32 (by decide) ?_
  have e : ((x : Int) * 2 ^ 32) = ((x * 4294967296 : Nat) : Int) := by omega
  rw [e, wrap_nat rfl (by show _ < 2 ^ 64; omega)]; exact hk
end Go.Vc
namespace Go.Dig
theorem top2 {b : Nat} {l : List Nat} {n : Nat} : evl b (l.take (n + 2)) = evl b (l.take n) + b ^ n * (l.getD (n + 1) 0 * b + l.getD n 0) := by
  rw [evl_take_next l (n + 1), evl_take_next, Nat.add_assoc, Nat.mul_add, Nat.pow_succ]
  congr 1; rw [Nat.add_comm, Nat.mul_assoc, Nat.mul_comm b]
theorem top3 {b : Nat} {l : List Nat} {n : Nat} : evl b (l.take (n + 3)) = evl b (l.take n) + b ^ n * ((l.getD (n + 1) 0 + l.getD (n + 2) 0 * b) * b + l.getD n 0) := by
  rw [evl_take_next l (n + 2), top2, Nat.add_assoc, show b ^ (n + 2) = b ^ n * (b * b) by rw [Nat.pow_add, Nat.pow_two], Nat.mul_assoc, ← Nat.mul_add]
  congr 2
  rw [Nat.add_mul, Nat.mul_assoc (l.getD (n + 2) 0), Nat.mul_comm (b * b)]
  omega
theorem un_le {b P dl ul v1 v2 un u1 u2 U D : Nat} (hD : D = dl + P * (v1 * b + v2)) (hdl : dl < P) (hU : U = ul + P * ((u1 + un * b) * b + u2)) (h : U < D * b) (hv2 : v2 < b) : un ≤ v1 := by
  have hP : 0 < P := by omega
  have h1 : P * (un * b * b) ≤ U := by
    rw [hU]; exact Nat.le_trans (Nat.mul_le_mul_left _ (by rw [Nat.add_mul]; omega)) (Nat.le_add_left _ _)
  have h2 : D ≤ P * (v1 * b + v2 + 1) := by rw [hD, Nat.mul_add P (v1 * b + v2) 1]; omega
  have h3 : D * b ≤ P * ((v1 * b + v2 + 1) * b) := by rw [← Nat.mul_assoc]; exact Nat.mul_le_mul_right _ h2
  have h4 : P * (un * b * b) < P * ((v1 * b + v2 + 1) * b) := by omega
  have h5 := Nat.lt_of_mul_lt_mul_left h4
  have h6 := Nat.lt_of_mul_lt_mul_right h5
  have h7 : un * b < (v1 + 1) * b := by rw [Nat.add_mul]; omega
  have := Nat.lt_of_mul_lt_mul_right h7
  omega
theorem back_step {b : Nat} {w u dd : List Nat} {k c bo bo' G s x : Nat} (hk : k < w.length) (hs : s = G * dd.getD k 0 + c) (hx : x + s % b + bo = u.getD k 0 + bo' * b)
    (h : evl b (w.take k) + G * evl b (dd.take k) = evl b (u.take k) + (c + bo) * b ^ k) :
    evl b ((w.set k x).take (k + 1)) + G * evl b (dd.take (k + 1)) = evl b (u.take (k + 1)) + (s / b + bo') * b ^ (k + 1) := by
  rw [evl_take_set _ hk, evl_take_next dd, evl_take_next u, Nat.mul_add, Nat.pow_succ]
  have e1 : (c + bo) * b ^ k = b ^ k * (c + bo) := Nat.mul_comm _ _
  have e2 : G * (b ^ k * dd.getD k 0) = b ^ k * (G * dd.getD k 0) := Nat.mul_left_comm _ _ _
  have e3 : (s / b + bo') * (b ^ k * b) = b ^ k * ((s / b + bo') * b) := by rw [Nat.mul_left_comm]
  rw [e1] at h; rw [e2, e3]
  have e4 : (c + bo) + x + G * dd.getD k 0 = u.getD k 0 + (s / b + bo') * b := by
    have := Nat.div_add_mod s b
    rw [Nat.mul_comm] at this
    rw [Nat.add_mul]; omega
  have e5 : b ^ k * (c + bo + x + G * dd.getD k 0) = b ^ k * (u.getD k 0 + (s / b + bo') * b) := by rw [e4]
  simp only [Nat.mul_add] at e5
  rw [Nat.mul_add] at h
  skip
  omega
theorem last_step {b : Nat} {w u dd : List Nat} {k c bo E G x : Nat} (hk : k < w.length) (hd : dd.length ≤ k) (hc : c < b) (hx : x + c + bo = u.getD k 0 + E * b)
    (h : evl b (w.take k) + G * evl b (dd.take k) = evl b (u.take k) + (c + bo) * b ^ k) :
    evl b ((w.set k x).take (k + 1)) + G * evl b dd = evl b (u.take (k + 1)) + E * b ^ (k + 1) := by
  have := back_step (s := c) (bo' := E) (x := x) hk (by rw [getD_out hd]; omega) (by rw [Nat.mod_eq_of_lt hc]; exact hx) h
  rwa [Nat.div_eq_of_lt hc, Nat.zero_add, evl_take_all (l := dd) (by omega)] at this
theorem end_mod {Y e M r : Nat} (h : Y + e * M = M + r) (h1 : Y < M) (h2 : r < M) : Y = r := by
  have := congrArg (· % M) h
  simpa [Nat.add_mul_mod_self_right, Nat.mod_eq_of_lt h1, Nat.mod_eq_of_lt h2] using this
theorem evl_low {b : Nat} (hb : 2 ≤ b) {l : List Nat} {k : Nat} (h : ∀ x ∈ l, x < b) (hk : k ≤ l.length) : evl b (l.take k) < b ^ k := by
  have := evl_lt hb (l := l.take k) fun x hx => h x (List.mem_of_mem_take hx)
  rwa [show (l.take k).length = k by simp; omega] at this
theorem evl_whole {b : Nat} {l u : List Nat} {k : Nat} (hk : k ≤ l.length) (hd : l.drop k = u.drop k) (h0 : evl b (u.drop k) = 0) : evl b l = evl b (l.take k) := by
  rw [evl_split hk, hd, h0, Nat.mul_zero, Nat.add_zero]
end Go.Dig
namespace Go.Proofs.YtdemgbmndijkkaaGreatDoor
open Go Go.Vc Go.Dig

set_option maxRecDepth 40000 in
set_option maxHeartbeats 4000000 in
theorem digit_ct (h : Heap) (b cap : Nat) (p u : List Nat) (d : Sl) (Dv m : Nat) (hd : IsNat h d Dv) (hm : ln 4294967296 Dv = m + 2) (la : ln 4294967296 Dv ≤ 17179869184) (hv1 : 2147483648 ≤ ((dg 4294967296 Dv).getD (m + 1) 0)) (hul : m + 3 ≤ u.length) (hpl : p.length ≤ 17179869184) (huB : ∀ x ∈ u, x < 4294967296) (hUD : evl 4294967296 u < Dv * 4294967296) :
    Vc.Fn T F.word_digit [.slice (some ⟨b, p.length, none⟩) (m + 3) cap, d.val] h [(b, Row .u32 Ty.uint32 (p ++ u))] fun v h' L' => ∃ u' : List Nat, h' = h ∧ L' = [(b, Row .u32 Ty.uint32 (p ++ u'))] ∧ v = .int .u32 (evl 4294967296 u / Dv : Nat) ∧ u'.length = u.length ∧ (∀ x ∈ u', x < 4294967296) ∧ evl 4294967296 u' = evl 4294967296 u % Dv := by
  have hdl := hd.len
  have hv1B := dg_getD_lt two_le_B Dv (m + 1)
  have hv2B := dg_getD_lt two_le_B Dv m
  have hu0 := getD_lt (b := 4294967296) (by omega) huB (m + 2)
  have hu1 := getD_lt (b := 4294967296) (by omega) huB (m + 1)
  have hu2 := getD_lt (b := 4294967296) (by omega) huB m
  have hDs : Hq (Dv = evl 4294967296 ((dg 4294967296 Dv).take m) + 4294967296 ^ m * (((dg 4294967296 Dv).getD (m + 1) 0) * 4294967296 + ((dg 4294967296 Dv).getD m 0))) := ⟨by rw [← top2, ← hm]; exact (evl_all two_le_B (Nat.le_refl _)).symm⟩
  have hDB : Dv < 4294967296 ^ (m + 2) := by rw [← hm]; exact lt_pow_ln two_le_B Dv
  have hD0 : 0 < Dv := by
    rcases Nat.eq_zero_or_pos Dv with h0 | h0
    · rw [h0, ln_zero] at hm; omega
    · exact h0
  have htop : Hq (evl 4294967296 (u.drop (m + 3)) = 0) := ⟨by
    rw [evl_div two_le_B huB]
    refine Nat.div_eq_of_lt (Nat.lt_of_lt_of_le hUD ?_)
    rw [Nat.pow_succ 4294967296 (m + 2)]; exact Nat.mul_le_mul_right _ (Nat.le_of_lt hDB)⟩
  have hUt : Hq (evl 4294967296 u = evl 4294967296 (u.take (m + 3))) := ⟨by rw [evl_split hul, htop.out, Nat.mul_zero, Nat.add_zero]⟩
  have hUs : Hq (evl 4294967296 u = evl 4294967296 (u.take m) + 4294967296 ^ m * (((u.getD (m + 1) 0) + (u.getD (m + 2) 0) * 4294967296) * 4294967296 + (u.getD m 0))) := ⟨by rw [hUt.out, top3]⟩
  have hlow : ∀ {l : List Nat}, (∀ x ∈ l, x < 4294967296) → m ≤ l.length → evl 4294967296 (l.take m) < 4294967296 ^ m := fun {l} hl hm => by
    have := evl_lt two_le_B (l := l.take m) fun x hx => hl x (List.mem_of_mem_take hx)
    rwa [show (l.take m).length = m by simp; omega] at this
  have hul2 : Hq (evl 4294967296 (u.take m) < 4294967296 ^ m) := ⟨hlow huB (by omega)⟩
  have hdl2 : Hq (evl 4294967296 ((dg 4294967296 Dv).take m) < 4294967296 ^ m) := ⟨hlow (dg_lt two_le_B Dv) (by unfold ln at hm; omega)⟩
  have hun : (u.getD (m + 2) 0) ≤ ((dg 4294967296 Dv).getD (m + 1) 0) := un_le hDs.out hdl2.out hUs.out hUD hv2B
  obtain ⟨q, hq⟩ : ∃ q, q = evl 4294967296 u / Dv := ⟨_, rfl⟩
  obtain ⟨top, ht⟩ : ∃ top, top = (u.getD (m + 1) 0) + (u.getD (m + 2) 0) * 4294967296 := ⟨_, rfl⟩
  rw [← ht] at hUs
  obtain ⟨g0, hg0⟩ : ∃ g0, g0 = top / ((dg 4294967296 Dv).getD (m + 1) 0) := ⟨_, rfl⟩
  obtain ⟨r0, hr0⟩ : ∃ r0, r0 = top % ((dg 4294967296 Dv).getD (m + 1) 0) := ⟨_, rfl⟩
  have hq0 : q ≤ g0 := by rw [hq, hg0]; exact guess_ge hDs.out hUs.out hul2.out hu2 (by omega)
  have hqB : q < 4294967296 := by rw [hq]; exact (Nat.div_lt_iff_lt_mul hD0).2 (by rw [Nat.mul_comm]; exact hUD)
  have hg0B : g0 ≤ 4294967296 + 1 := by
    rw [hg0]
    have : top < (4294967296 + 2) * ((dg 4294967296 Dv).getD (m + 1) 0) := by
      have : (u.getD (m + 2) 0) * 4294967296 ≤ ((dg 4294967296 Dv).getD (m + 1) 0) * 4294967296 := Nat.mul_le_mul_right _ hun
      omega
    have := (Nat.div_lt_iff_lt_mul (by omega)).2 this
    omega
  have hr0B : r0 < 4294967296 := by have := Nat.mod_lt top (show 0 < ((dg 4294967296 Dv).getD (m + 1) 0) by omega); omega
  have hgr : Hq (g0 * ((dg 4294967296 Dv).getD (m + 1) 0) + r0 = top) := ⟨by rw [hg0, hr0, Nat.mul_comm]; exact Nat.div_add_mod _ _⟩
  have eq1 : ((top : Int) / (((dg 4294967296 Dv).getD (m + 1) 0) : Nat)) = (g0 : Int) := by rw [hg0]; rfl
  have eq2 : ((top : Int) % (((dg 4294967296 Dv).getD (m + 1) 0) : Nat)) = (r0 : Int) := by rw [hr0]; rfl
  rw [← hq]
  replace hq := Hq.mk hq
  replace hg0 := Hq.mk hg0
  replace hr0 := Hq.mk hr0
  replace hDB := Hq.mk hDB
  replace hUD := Hq.mk hUD
  replace hD0 := Hq.mk hD0
  replace hlow := Hq.mk @hlow
  refine fn_of_codeI ok D.word_digit rfl ?_
  conv => whnf
  repeat ((first | refine opsI.step ?_ | refine codeI.step ?_); conv => whnf)
  repeat' first
   | (show Idx _ _ _ _ _; first
     | (refine Idx.one (m + 2) rfl (by omega) (by omega) ?_; conv => whnf)
     | (refine Idx.one (m + 1) rfl (by omega) (by omega) ?_; conv => whnf))
   | (show Ld _ _ _ _; first
     | (refine Ld.win 0 rfl (by omega) ?_; conv => whnf))
   | (show ShlN _ _ _ _; first
     | (refine ShlN.w32 hu0 ?_; conv => whnf))
   | (show WrapN _ _ _; first
     | (refine WrapN.i64 (by omega) (by omega) ?_; conv => whnf)
     | (refine WrapN.u64 (by omega) (by omega) ?_; conv => whnf))
   | (show DrawN _ _ _ _ _ _; first
     | (refine DrawN.run (by decide +kernel) ?_; conv => whnf))
  · refine BitN.orq (u.getD (m + 1) 0) ((u.getD (m + 2) 0) * 4294967296) 32 rfl rfl hu1 (by show _ % 4294967296 = 0; omega) (by show _ < 2 ^ 64; omega) (by show _ < 2 ^ 64; omega) rfl (fun _ => ?_)
    rw [← ht]
    conv => whnf
    repeat ((first | refine opsI.step ?_ | refine codeI.step ?_); conv => whnf)
    repeat' first
     | (show Idx _ _ _ _ _; first
       | (refine Idx.ws hd (m + 1) (by omega) (by unfold ln at *; omega) (fun ad hv => ?_); conv => whnf))
     | (show Ld _ _ _ _; first
       | (refine Ld.of (by first | exact hv _ | (rename_i hv; exact hv _)) ?_; conv => whnf))
     | (show QuoN _ _ _ _; first
       | (refine QuoN.u64 (by omega) (by omega) (by omega) ?_; rw [eq1]; conv => whnf))
     | (show RemN _ _ _; first
       | (refine RemN.nn (by omega) (by omega) ?_; rw [eq2]; conv => whnf))
     | ((first | refine opsI.step ?_ | refine codeI.step ?_); conv => whnf)
     | (show WrapN _ _ _; first
       | (refine WrapN.i64 (by omega) (by omega) ?_; conv => whnf)
       | (refine WrapN.u64 (by omega) (by omega) ?_; conv => whnf))
     | (show DrawN _ _ _ _ _ _; first
       | (refine DrawN.run (by decide +kernel) ?_; conv => whnf))
    refine LoopN.of (fun r ρ h' L => ∃ (g rest : Nat), r = g ∧ h' = h ∧ L = [(b, Row .u32 Ty.uint32 (p ++ u))] ∧ rd ρ 7 = .int .u64 g ∧ rd ρ 8 = .int .u64 rest ∧ g ≤ 4294967296 + 1 ∧ rest < 4294967296 ∧ q ≤ g ∧ Hq (g * ((dg 4294967296 Dv).getD (m + 1) 0) + rest = top)) g0
      ⟨g0, r0, rfl, rfl, rfl, rfl, rfl, hg0B, hr0B, hq0, hgr⟩ ?_
    conv => whnf
    repeat intro _
    rename_i g h2 L2 hI
    obtain ⟨_, rest, rfl, rfl, rfl, e0, e1, hgB, hrB, hqg, hgr⟩ := hI
    conv at e0 => lhs; whnf
    subst e0
    conv at e1 => lhs; whnf
    subst e1
    have hstop : ∀ G rest, Hq (G * ((dg 4294967296 Dv).getD (m + 1) 0) + rest = top) → 4294967296 ≤ rest → G < 4294967296 := fun G rest h1 h2 => guess_stop (u1 := (u.getD (m + 1) 0)) (un := (u.getD (m + 2) 0)) h1.out (by omega) hu1 hun h2
    have hle : ∀ G rest, Hq (G * ((dg 4294967296 Dv).getD (m + 1) 0) + rest = top) → G < 4294967296 → Hq (G * ((dg 4294967296 Dv).getD m 0) ≤ rest * 4294967296 + (u.getD m 0)) → G ≤ q + 1 := fun G rest h1 h2 h3 => by
      rw [hq.out]; exact guess_le hDs.out hdl2.out hUs.out h1.out (by omega) h2 h3.out
    rcases Nat.lt_or_ge g 4294967296 with hgl | hgl
    · conv => whnf
      repeat ((first | refine opsI.step ?_ | refine codeI.step ?_); conv => whnf)
      repeat' first
       | (show ShrN _ _ _ _; first
         | (refine ShrN.of 32 (by decide) (by omega) ?_; conv => whnf))
       | (show WrapN _ _ _; first
         | (refine WrapN.mul32 (x := g) (y := ((dg 4294967296 Dv).getD m 0)) hgl hv2B (fun pp hp hp' => ?_); conv => whnf)
         | (refine WrapN.i64 (by omega) (by omega) ?_; conv => whnf)
         | (refine WrapN.u64 (by omega) (by omega) ?_; conv => whnf))
       | (show ShlN _ _ _ _; first
         | (refine ShlN.w32 hrB ?_; conv => whnf))
       | (show Idx _ _ _ _ _; first
         | (refine Idx.one m rfl (by omega) (by omega) ?_; conv => whnf)
         | (refine Idx.ws hd m (by omega) (by unfold ln at *; omega) (fun ad hv => ?_); conv => whnf))
       | (show Ld _ _ _ _; first
         | (refine Ld.win 0 rfl (by omega) ?_; conv => whnf)
         | (refine Ld.of (by first | exact hv _ | (rename_i hv; exact hv _)) ?_; conv => whnf))
       | (show cnd _ _ _; first
         | (refine cnd_eq (fun _ => ?_) (fun _ => ?_) <;> first | (exfalso; omega) | (conv => whnf))
         | (refine cnd_not ?_))
       | (show DrawN _ _ _ _ _ _; first
         | (refine DrawN.run (by decide +kernel) ?_; conv => whnf))
      rename_i pp hp hp' _ _
      refine BitN.orq (u.getD m 0) (rest * 4294967296) 32 rfl rfl hu2 (by show _ % 4294967296 = 0; omega) (by show _ < 2 ^ 64; omega) (by show _ < 2 ^ 64; omega) rfl (fun _ => ?_)
      obtain ⟨sm, hsm⟩ : ∃ sm, sm = (u.getD m 0) + rest * 4294967296 := ⟨_, rfl⟩
      rw [← hsm]
      conv => whnf
      repeat ((first | refine opsI.step ?_ | refine codeI.step ?_); conv => whnf)
      refine cnd_lt (fun hgt => ?_) (fun hng => ?_)
      · have hqg1 : q < g := by rw [hq.out]; exact guess_gt hDs.out hUs.out hul2.out hgr.out (by rw [← hp.out]; omega)
        obtain ⟨G, rfl⟩ : ∃ G, g = G + 1 := ⟨g - 1, by omega⟩
        have eG : ((G + 1 : Nat) : Int) - 1 = (G : Int) := by omega
        have hgn : Hq (G * ((dg 4294967296 Dv).getD (m + 1) 0) + (rest + ((dg 4294967296 Dv).getD (m + 1) 0)) = top) := ⟨guess_next (Nat.succ_pos G) hgr.out⟩
        clear hgr
        conv => whnf
        repeat ((first | refine opsI.step ?_ | refine codeI.step ?_); conv => whnf)
        repeat' first
         | (show WrapN _ _ _; first
           | (refine WrapN.u64 (by omega) (by omega) ?_; rw [eG]; conv => whnf)
           | (refine WrapN.i64 (by omega) (by omega) ?_; conv => whnf)
           | (refine WrapN.u64 (by omega) (by omega) ?_; conv => whnf))
         | (show ShrN _ _ _ _; first
           | (refine ShrN.of 32 (by decide) (by omega) ?_; conv => whnf))
         | (show Idx _ _ _ _ _; first
           | (refine Idx.ws hd (m + 1) (by omega) (by unfold ln at *; omega) (fun ad hv => ?_); conv => whnf))
         | (show Ld _ _ _ _; first
           | (refine Ld.of (by first | exact hv _ | (rename_i hv; exact hv _)) ?_; conv => whnf))
         | ((first | refine opsI.step ?_ | refine codeI.step ?_); conv => whnf)
         | (show cnd _ _ _; first
           | (refine cnd_eq (fun _ => ?_) (fun _ => ?_) <;> first | (exfalso; omega) | (conv => whnf))
           | (refine cnd_not ?_))
        · exact ⟨rfl, G, by omega, G, rest + ((dg 4294967296 Dv).getD (m + 1) 0), rfl, rfl, rfl, rfl, vi (by omega), by omega, by omega, by omega, hgn⟩
        · have hGB : G < 4294967296 := hstop _ _ hgn (by omega)
          have hqG : q ≤ G := by omega
          have hGq : G ≤ q + 1 := hle _ _ hgn hGB ⟨guess_stop' hGB hv2B (by omega)⟩
          refine LoopN.of (fun r ρ h' L => ∃ (k : Nat) (w : List Nat) (c bo : Nat), r = m + 2 - k ∧ h' = h2 ∧ L = [(b, Row .u32 Ty.uint32 (p ++ w))] ∧ rd ρ 88 = .int .i64 k ∧ rd ρ 10 = .int .u64 c ∧ rd ρ 9 = .int .u64 bo ∧ k ≤ m + 2 ∧ w.length = u.length ∧ (∀ x ∈ w, x < 4294967296) ∧ c < 4294967296 ∧ bo ≤ 1 ∧ Hq (w.drop k = u.drop k) ∧ Hq (evl 4294967296 (w.take k) + G * evl 4294967296 ((dg 4294967296 Dv).take k) = evl 4294967296 (u.take k) + (c + bo) * 4294967296 ^ k)) (m + 2)
            ⟨0, u, 0, 0, rfl, rfl, rfl, rfl, rfl, rfl, by omega, rfl, huB, by omega, by omega, ⟨rfl⟩, ⟨by simp [evl_nil]⟩⟩ ?_
          conv => whnf
          repeat intro _
          rename_i r2 h3 L3 hI
          obtain ⟨k, w, c, bo, rfl, rfl, rfl, e0, e1, e2, hk, hwl, hwB, hc, hbo, hwd, heq⟩ := hI
          conv at e0 => lhs; whnf
          subst e0
          conv at e1 => lhs; whnf
          subst e1
          conv at e2 => lhs; whnf
          subst e2
          have hdk := dg_getD_lt two_le_B Dv k
          have hwk := getD_lt (b := 4294967296) (by omega) hwB k
          obtain ⟨xl, hxl⟩ : ∃ xl, xl = (w.getD k 0 + 2 * 4294967296 - c - bo) % 4294967296 := ⟨_, rfl⟩
          have hwu : Hq (w.getD k 0 = u.getD k 0) := ⟨getD_of_drop hwd.out (Nat.le_refl _)⟩
          conv => whnf
          repeat ((first | refine opsI.step ?_ | refine codeI.step ?_); conv => whnf)
          repeat' first
           | (show Idx _ _ _ _ _; first
             | (refine Idx.ws hd k (by omega) (by unfold ln at *; omega) (fun ad hv => ?_); conv => whnf)
             | (refine Idx.one k rfl (by omega) (by omega) ?_; conv => whnf))
           | (show Ld _ _ _ _; first
             | (refine Ld.of (by first | exact hv _ | (rename_i hv; exact hv _)) ?_; conv => whnf)
             | (refine Ld.win 0 rfl (by omega) ?_; conv => whnf))
           | (show WrapN _ _ _; first
             | (refine WrapN.mul32 (x := G) (y := (dg 4294967296 Dv).getD k 0) hGB hdk (fun pq hpq hpq' => ?_); conv => whnf)
             | (refine WrapN.u32e (fun _ _ => ?_); conv => whnf)
             | (refine WrapN.u64 (by omega) (by omega) ?_; conv => whnf)
             | (refine WrapN.u64e (fun _ _ => ?_); conv => whnf)
             | (refine WrapN.i64 (by omega) (by omega) ?_; conv => whnf))
           | (show ShrN _ _ _ _; first
             | (refine ShrN.e 32 (by decide) (by omega) (fun _ _ => ?_); conv => whnf)
             | (refine ShrN.e 63 (by decide) (by omega) (fun _ _ => ?_); conv => whnf))
           | (show Sto _ _ _ _; first
             | (refine Sto.win 0 rfl xl (by omega) (by omega) ?_; conv => whnf)
             | (refine Sto.winE 0 rfl (by omega) (fun _ _ => ?_); conv => whnf))
           | ((first | refine opsI.step ?_ | refine codeI.step ?_); conv => whnf)
           | (show cnd _ _ _; first
             | (refine cnd_lt (fun _ => ?_) (fun _ => ?_) <;> first | (exfalso; omega) | (conv => whnf))
             | (refine cnd_eq (fun _ => ?_) (fun _ => ?_) <;> first | (exfalso; omega) | (conv => whnf)))
          · refine ⟨rfl, m + 2 - (k + 1), by omega, k + 1, _, (pq + c) / 4294967296, if w.getD k 0 < (pq + c) % 4294967296 + bo then 1 else 0, rfl, rfl, rfl, vi (by omega), vi (by omega), vi (by split <;> omega), by omega, by simp [hwl], mem_set_lt hwB (by omega), by omega, by split <;> omega, ⟨drop_of_drop hwd.out⟩, ⟨back_step (s := pq + c) (by omega) (by rw [hpq.out]) (by rw [← hwu.out]; split <;> omega) heq.out⟩⟩
          · obtain rfl : k = m + 2 := by omega
            have hE := last_step (x := xl) (E := 0) (by omega) (by unfold ln at hm; omega) hc (by rw [← hwu.out]; omega) heq.out
            rw [evl_dg two_le_B, ← hUt.out] at hE
            have hfin := (digit_end hD0.out hq.out hqG hGq hE (.inr (Nat.zero_mul _))).1 (Nat.zero_mul _)
            refine RetN.done ⟨w.set (m + 2) xl, rfl, rfl, vi (by have := hfin.1; omega), by simp [hwl], mem_set_lt hwB (by omega), ?_⟩
            rw [evl_whole (by simp; omega) (drop_of_drop hwd.out) htop.out]
            exact hfin.2
          · obtain rfl : k = m + 2 := by omega
            have hE := last_step (x := xl) (E := 1) (by omega) (by unfold ln at hm; omega) hc (by rw [← hwu.out]; omega) heq.out
            rw [evl_dg two_le_B, ← hUt.out, Nat.one_mul] at hE
            obtain ⟨y, hy⟩ : ∃ y, y = w.set (m + 2) xl := ⟨_, rfl⟩
            have hyl : y.length = u.length := by rw [hy]; simp [hwl]
            have hyB : ∀ x ∈ y, x < 4294967296 := by rw [hy]; exact mem_set_lt hwB (by omega)
            have hyd : Hq (y.drop (m + 3) = u.drop (m + 3)) := ⟨by rw [hy]; exact drop_of_drop hwd.out⟩
            rw [← hy] at hE
            have hpos : 0 < 4294967296 ^ (m + 3) := Nat.pow_pos (by omega)
            have hfin := (digit_end hD0.out hq.out hqG hGq hE (.inl (evl_low two_le_B hyB (by omega)))).2 hpos
            have hG1 := hfin.1
            replace hfin := Hq.mk hfin.2
            rw [← hy]
            replace hE := Hq.mk hE
            replace hpos := Hq.mk hpos
            refine LoopN.of (fun r ρ h' L => ∃ (k : Nat) (z : List Nat) (c : Nat), r = m + 2 - k ∧ h' = h3 ∧ L = [(b, Row .u32 Ty.uint32 (p ++ z))] ∧ rd ρ 141 = .int .i64 k ∧ rd ρ 10 = .int .u64 c ∧ k ≤ m + 2 ∧ z.length = u.length ∧ (∀ x ∈ z, x < 4294967296) ∧ c ≤ 1 ∧ Hq (z.drop k = y.drop k) ∧ Hq (evl 4294967296 (z.take k) + c * 4294967296 ^ k = evl 4294967296 (y.take k) + evl 4294967296 ((dg 4294967296 Dv).take k))) (m + 2)
              ⟨0, y, 0, rfl, rfl, rfl, rfl, rfl, by omega, hyl, hyB, by omega, ⟨rfl⟩, ⟨by simp [evl_nil]⟩⟩ ?_
            conv => whnf
            repeat intro _
            rename_i r3 h4 L4 hI
            obtain ⟨k, z, c, rfl, rfl, rfl, e0, e1, hk, hzl, hzB, hc, hzd, heq⟩ := hI
            conv at e0 => lhs; whnf
            subst e0
            conv at e1 => lhs; whnf
            subst e1
            have hdk := dg_getD_lt two_le_B Dv k
            have hzk := getD_lt (b := 4294967296) (by omega) hzB k
            obtain ⟨s3, hs3⟩ : ∃ s3, s3 = z.getD k 0 + c + (dg 4294967296 Dv).getD k 0 := ⟨_, rfl⟩
            obtain ⟨x3, hx3⟩ : ∃ x3, x3 = s3 % 4294967296 := ⟨_, rfl⟩
            obtain ⟨x4, hx4⟩ : ∃ x4, x4 = (z.getD k 0 + c) % 4294967296 := ⟨_, rfl⟩
            have hzu : Hq (z.getD k 0 = y.getD k 0) := ⟨getD_of_drop hzd.out (Nat.le_refl _)⟩
            conv => whnf
            repeat ((first | refine opsI.step ?_ | refine codeI.step ?_); conv => whnf)
            repeat' first
             | (show Idx _ _ _ _ _; first
               | (refine Idx.ws hd k (by omega) (by unfold ln at *; omega) (fun ad hv => ?_); conv => whnf)
               | (refine Idx.one k rfl (by omega) (by omega) ?_; conv => whnf))
             | (show Ld _ _ _ _; first
               | (refine Ld.of (by first | exact hv _ | (rename_i hv; exact hv _)) ?_; conv => whnf)
               | (refine Ld.win 0 rfl (by omega) ?_; conv => whnf))
             | (show ShrN _ _ _ _; first
               | (refine ShrN.e 32 (by decide) (by omega) (fun _ _ => ?_); conv => whnf))
             | (show WrapN _ _ _; first
               | (refine WrapN.u32e (fun _ _ => ?_); conv => whnf)
               | (refine WrapN.i64 (by omega) (by omega) ?_; conv => whnf)
               | (refine WrapN.u64 (by omega) (by omega) ?_; conv => whnf))
             | (show Sto _ _ _ _; first
               | (refine Sto.win 0 rfl x3 (by omega) (by omega) ?_; conv => whnf)
               | (refine Sto.win 0 rfl x4 (by omega) (by omega) ?_; conv => whnf))
             | ((first | refine opsI.step ?_ | refine codeI.step ?_); conv => whnf)
             | (show cnd _ _ _; first
               | (refine cnd_lt (fun _ => ?_) (fun _ => ?_) <;> first | (exfalso; omega) | (conv => whnf)))
            · refine ⟨rfl, m + 2 - (k + 1), by omega, k + 1, _, s3 / 4294967296, rfl, rfl, rfl, vi (by omega), vi (by omega), by omega, by simp [hzl], mem_set_lt hzB (by omega), by omega, ⟨drop_of_drop hzd.out⟩, ⟨by rw [hx3]; exact add_step (by omega) (by rw [← hzu.out]; exact hs3) heq.out⟩⟩
            · obtain rfl : k = m + 2 := by omega
              have hz0 : (dg 4294967296 Dv).getD (m + 2) 0 = 0 := getD_out (by unfold ln at hm; omega)
              have hA := add_step (b := 4294967296) (o := z) (da := y) (db := dg 4294967296 Dv) (k := m + 2) (c := c) (s := z.getD (m + 2) 0 + c) (by omega) (by rw [← hzu.out, hz0]; rfl) heq.out
              rw [evl_take_all (l := dg 4294967296 Dv) (by unfold ln at hm; omega), evl_dg two_le_B, hfin.out] at hA
              rw [← hx4] at hA
              have hB := mem_set_lt (k := m + 2) (x := x4) hzB (by omega)
              have hY := end_mod hA (evl_low two_le_B hB (by simp; omega)) (Nat.lt_of_lt_of_le (Nat.lt_trans (Nat.mod_lt _ hD0.out) hDB.out) (Nat.pow_le_pow_right (by omega) (by omega)))
              refine RetN.done ⟨z.set (m + 2) x4, rfl, rfl, vi (by omega), by simp [hzl], hB, ?_⟩
              rw [evl_whole (u := u) (k := m + 3) (by simp; omega) ((drop_of_drop hzd.out).trans hyd.out) htop.out]
              exact hY
      · obtain ⟨G, hG⟩ : ∃ G, G = g := ⟨g, rfl⟩
        subst hG
        have hGB : G < 4294967296 := hgl
        have hqG : q ≤ G := hqg
        have hGq : G ≤ q + 1 := hle _ _ hgr hGB ⟨by rw [← hp.out]; omega⟩
        conv => whnf
        repeat ((first | refine opsI.step ?_ | refine codeI.step ?_); conv => whnf)
        skip
        refine LoopN.of (fun r ρ h' L => ∃ (k : Nat) (w : List Nat) (c bo : Nat), r = m + 2 - k ∧ h' = h2 ∧ L = [(b, Row .u32 Ty.uint32 (p ++ w))] ∧ rd ρ 88 = .int .i64 k ∧ rd ρ 10 = .int .u64 c ∧ rd ρ 9 = .int .u64 bo ∧ k ≤ m + 2 ∧ w.length = u.length ∧ (∀ x ∈ w, x < 4294967296) ∧ c < 4294967296 ∧ bo ≤ 1 ∧ Hq (w.drop k = u.drop k) ∧ Hq (evl 4294967296 (w.take k) + G * evl 4294967296 ((dg 4294967296 Dv).take k) = evl 4294967296 (u.take k) + (c + bo) * 4294967296 ^ k)) (m + 2)
          ⟨0, u, 0, 0, rfl, rfl, rfl, rfl, rfl, rfl, by omega, rfl, huB, by omega, by omega, ⟨rfl⟩, ⟨by simp [evl_nil]⟩⟩ ?_
        conv => whnf
        repeat intro _
        rename_i r2 h3 L3 hI
        obtain ⟨k, w, c, bo, rfl, rfl, rfl, e0, e1, e2, hk, hwl, hwB, hc, hbo, hwd, heq⟩ := hI
        conv at e0 => lhs; whnf
        subst e0
        conv at e1 => lhs; whnf
        subst e1
        conv at e2 => lhs; whnf
        subst e2
        have hdk := dg_getD_lt two_le_B Dv k
        have hwk := getD_lt (b := 4294967296) (by omega) hwB k
        obtain ⟨xl, hxl⟩ : ∃ xl, xl = (w.getD k 0 + 2 * 4294967296 - c - bo) % 4294967296 := ⟨_, rfl⟩
        have hwu : Hq (w.getD k 0 = u.getD k 0) := ⟨getD_of_drop hwd.out (Nat.le_refl _)⟩
        conv => whnf
        repeat ((first | refine opsI.step ?_ | refine codeI.step ?_); conv => whnf)
        repeat' first
         | (show Idx _ _ _ _ _; first
           | (refine Idx.ws hd k (by omega) (by unfold ln at *; omega) (fun ad hv => ?_); conv => whnf)
           | (refine Idx.one k rfl (by omega) (by omega) ?_; conv => whnf))
         | (show Ld _ _ _ _; first
           | (refine Ld.of (by first | exact hv _ | (rename_i hv; exact hv _)) ?_; conv => whnf)
           | (refine Ld.win 0 rfl (by omega) ?_; conv => whnf))
         | (show WrapN _ _ _; first
           | (refine WrapN.mul32 (x := G) (y := (dg 4294967296 Dv).getD k 0) hGB hdk (fun pq hpq hpq' => ?_); conv => whnf)
           | (refine WrapN.u32e (fun _ _ => ?_); conv => whnf)
           | (refine WrapN.u64 (by omega) (by omega) ?_; conv => whnf)
           | (refine WrapN.u64e (fun _ _ => ?_); conv => whnf)
           | (refine WrapN.i64 (by omega) (by omega) ?_; conv => whnf))
         | (show ShrN _ _ _ _; first
           | (refine ShrN.e 32 (by decide) (by omega) (fun _ _ => ?_); conv => whnf)
           | (refine ShrN.e 63 (by decide) (by omega) (fun _ _ => ?_); conv => whnf))
         | (show Sto _ _ _ _; first
           | (refine Sto.win 0 rfl xl (by omega) (by omega) ?_; conv => whnf)
           | (refine Sto.winE 0 rfl (by omega) (fun _ _ => ?_); conv => whnf))
         | ((first | refine opsI.step ?_ | refine codeI.step ?_); conv => whnf)
         | (show cnd _ _ _; first
           | (refine cnd_lt (fun _ => ?_) (fun _ => ?_) <;> first | (exfalso; omega) | (conv => whnf))
           | (refine cnd_eq (fun _ => ?_) (fun _ => ?_) <;> first | (exfalso; omega) | (conv => whnf)))
        · refine ⟨rfl, m + 2 - (k + 1), by omega, k + 1, _, (pq + c) / 4294967296, if w.getD k 0 < (pq + c) % 4294967296 + bo then 1 else 0, rfl, rfl, rfl, vi (by omega), vi (by omega), vi (by split <;> omega), by omega, by simp [hwl], mem_set_lt hwB (by omega), by omega, by split <;> omega, ⟨drop_of_drop hwd.out⟩, ⟨back_step (s := pq + c) (by omega) (by rw [hpq.out]) (by rw [← hwu.out]; split <;> omega) heq.out⟩⟩
        · obtain rfl : k = m + 2 := by omega
          have hE := last_step (x := xl) (E := 0) (by omega) (by unfold ln at hm; omega) hc (by rw [← hwu.out]; omega) heq.out
          rw [evl_dg two_le_B, ← hUt.out] at hE
          have hfin := (digit_end hD0.out hq.out hqG hGq hE (.inr (Nat.zero_mul _))).1 (Nat.zero_mul _)
          refine RetN.done ⟨w.set (m + 2) xl, rfl, rfl, vi (by have := hfin.1; omega), by simp [hwl], mem_set_lt hwB (by omega), ?_⟩
          rw [evl_whole (by simp; omega) (drop_of_drop hwd.out) htop.out]
          exact hfin.2
        · obtain rfl : k = m + 2 := by omega
          have hE := last_step (x := xl) (E := 1) (by omega) (by unfold ln at hm; omega) hc (by rw [← hwu.out]; omega) heq.out
          rw [evl_dg two_le_B, ← hUt.out, Nat.one_mul] at hE
          obtain ⟨y, hy⟩ : ∃ y, y = w.set (m + 2) xl := ⟨_, rfl⟩
          have hyl : y.length = u.length := by rw [hy]; simp [hwl]
          have hyB : ∀ x ∈ y, x < 4294967296 := by rw [hy]; exact mem_set_lt hwB (by omega)
          have hyd : Hq (y.drop (m + 3) = u.drop (m + 3)) := ⟨by rw [hy]; exact drop_of_drop hwd.out⟩
          rw [← hy] at hE
          have hpos : 0 < 4294967296 ^ (m + 3) := Nat.pow_pos (by omega)
          have hfin := (digit_end hD0.out hq.out hqG hGq hE (.inl (evl_low two_le_B hyB (by omega)))).2 hpos
          have hG1 := hfin.1
          replace hfin := Hq.mk hfin.2
          rw [← hy]
          replace hE := Hq.mk hE
          replace hpos := Hq.mk hpos
          refine LoopN.of (fun r ρ h' L => ∃ (k : Nat) (z : List Nat) (c : Nat), r = m + 2 - k ∧ h' = h3 ∧ L = [(b, Row .u32 Ty.uint32 (p ++ z))] ∧ rd ρ 141 = .int .i64 k ∧ rd ρ 10 = .int .u64 c ∧ k ≤ m + 2 ∧ z.length = u.length ∧ (∀ x ∈ z, x < 4294967296) ∧ c ≤ 1 ∧ Hq (z.drop k = y.drop k) ∧ Hq (evl 4294967296 (z.take k) + c * 4294967296 ^ k = evl 4294967296 (y.take k) + evl 4294967296 ((dg 4294967296 Dv).take k))) (m + 2)
            ⟨0, y, 0, rfl, rfl, rfl, rfl, rfl, by omega, hyl, hyB, by omega, ⟨rfl⟩, ⟨by simp [evl_nil]⟩⟩ ?_
          conv => whnf
          repeat intro _
          rename_i r3 h4 L4 hI
          obtain ⟨k, z, c, rfl, rfl, rfl, e0, e1, hk, hzl, hzB, hc, hzd, heq⟩ := hI
          conv at e0 => lhs; whnf
          subst e0
          conv at e1 => lhs; whnf
          subst e1
          have hdk := dg_getD_lt two_le_B Dv k
          have hzk := getD_lt (b := 4294967296) (by omega) hzB k
          obtain ⟨s3, hs3⟩ : ∃ s3, s3 = z.getD k 0 + c + (dg 4294967296 Dv).getD k 0 := ⟨_, rfl⟩
          obtain ⟨x3, hx3⟩ : ∃ x3, x3 = s3 % 4294967296 := ⟨_, rfl⟩
          obtain ⟨x4, hx4⟩ : ∃ x4, x4 = (z.getD k 0 + c) % 4294967296 := ⟨_, rfl⟩
          have hzu : Hq (z.getD k 0 = y.getD k 0) := ⟨getD_of_drop hzd.out (Nat.le_refl _)⟩
          conv => whnf
          repeat ((first | refine opsI.step ?_ | refine codeI.step ?_); conv => whnf)
          repeat' first
           | (show Idx _ _ _ _ _; first
             | (refine Idx.ws hd k (by omega) (by unfold ln at *; omega) (fun ad hv => ?_); conv => whnf)
             | (refine Idx.one k rfl (by omega) (by omega) ?_; conv => whnf))
           | (show Ld _ _ _ _; first
             | (refine Ld.of (by first | exact hv _ | (rename_i hv; exact hv _)) ?_; conv => whnf)
             | (refine Ld.win 0 rfl (by omega) ?_; conv => whnf))
           | (show ShrN _ _ _ _; first
             | (refine ShrN.e 32 (by decide) (by omega) (fun _ _ => ?_); conv => whnf))
           | (show WrapN _ _ _; first
             | (refine WrapN.u32e (fun _ _ => ?_); conv => whnf)
             | (refine WrapN.i64 (by omega) (by omega) ?_; conv => whnf)
             | (refine WrapN.u64 (by omega) (by omega) ?_; conv => whnf))
           | (show Sto _ _ _ _; first
             | (refine Sto.win 0 rfl x3 (by omega) (by omega) ?_; conv => whnf)
             | (refine Sto.win 0 rfl x4 (by omega) (by omega) ?_; conv => whnf))
           | ((first | refine opsI.step ?_ | refine codeI.step ?_); conv => whnf)
           | (show cnd _ _ _; first
             | (refine cnd_lt (fun _ => ?_) (fun _ => ?_) <;> first | (exfalso; omega) | (conv => whnf)))
          · refine ⟨rfl, m + 2 - (k + 1), by omega, k + 1, _, s3 / 4294967296, rfl, rfl, rfl, vi (by omega), vi (by omega), by omega, by simp [hzl], mem_set_lt hzB (by omega), by omega, ⟨drop_of_drop hzd.out⟩, ⟨by rw [hx3]; exact add_step (by omega) (by rw [← hzu.out]; exact hs3) heq.out⟩⟩
          · obtain rfl : k = m + 2 := by omega
            have hz0 : (dg 4294967296 Dv).getD (m + 2) 0 = 0 := getD_out (by unfold ln at hm; omega)
            have hA := add_step (b := 4294967296) (o := z) (da := y) (db := dg 4294967296 Dv) (k := m + 2) (c := c) (s := z.getD (m + 2) 0 + c) (by omega) (by rw [← hzu.out, hz0]; rfl) heq.out
            rw [evl_take_all (l := dg 4294967296 Dv) (by unfold ln at hm; omega), evl_dg two_le_B, hfin.out] at hA
            rw [← hx4] at hA
            have hB := mem_set_lt (k := m + 2) (x := x4) hzB (by omega)
            have hY := end_mod hA (evl_low two_le_B hB (by simp; omega)) (Nat.lt_of_lt_of_le (Nat.lt_trans (Nat.mod_lt _ hD0.out) hDB.out) (Nat.pow_le_pow_right (by omega) (by omega)))
            refine RetN.done ⟨z.set (m + 2) x4, rfl, rfl, vi (by omega), by simp [hzl], hB, ?_⟩
            rw [evl_whole (u := u) (k := m + 3) (by simp; omega) ((drop_of_drop hzd.out).trans hyd.out) htop.out]
            exact hY
    · have hqg1 : q < g := by rw [hq.out]; exact guess_big hUD.out hgl
      obtain ⟨G, rfl⟩ : ∃ G, g = G + 1 := ⟨g - 1, by omega⟩
      have eG : ((G + 1 : Nat) : Int) - 1 = (G : Int) := by omega
      have hgn : Hq (G * ((dg 4294967296 Dv).getD (m + 1) 0) + (rest + ((dg 4294967296 Dv).getD (m + 1) 0)) = top) := ⟨guess_next (Nat.succ_pos G) hgr.out⟩
      clear hgr
      conv => whnf
      repeat ((first | refine opsI.step ?_ | refine codeI.step ?_); conv => whnf)
      repeat' first
       | (show WrapN _ _ _; first
         | (refine WrapN.u64 (by omega) (by omega) ?_; rw [eG]; conv => whnf)
         | (refine WrapN.i64 (by omega) (by omega) ?_; conv => whnf)
         | (refine WrapN.u64 (by omega) (by omega) ?_; conv => whnf))
       | (show ShrN _ _ _ _; first
         | (refine ShrN.of 32 (by decide) (by omega) ?_; conv => whnf))
       | (show Idx _ _ _ _ _; first
         | (refine Idx.ws hd (m + 1) (by omega) (by unfold ln at *; omega) (fun ad hv => ?_); conv => whnf))
       | (show Ld _ _ _ _; first
         | (refine Ld.of (by first | exact hv _ | (rename_i hv; exact hv _)) ?_; conv => whnf))
       | ((first | refine opsI.step ?_ | refine codeI.step ?_); conv => whnf)
       | (show cnd _ _ _; first
         | (refine cnd_eq (fun _ => ?_) (fun _ => ?_) <;> first | (exfalso; omega) | (conv => whnf))
         | (refine cnd_not ?_))
       | (show DrawN _ _ _ _ _ _; first
         | (refine DrawN.run (by decide +kernel) ?_; conv => whnf))
      · exact ⟨rfl, G, by omega, G, rest + ((dg 4294967296 Dv).getD (m + 1) 0), rfl, rfl, rfl, rfl, vi (by omega), by omega, by omega, by omega, hgn⟩
      · have hGB : G < 4294967296 := hstop _ _ hgn (by omega)
        have hqG : q ≤ G := by omega
        have hGq : G ≤ q + 1 := hle _ _ hgn hGB ⟨guess_stop' hGB hv2B (by omega)⟩
        refine LoopN.of (fun r ρ h' L => ∃ (k : Nat) (w : List Nat) (c bo : Nat), r = m + 2 - k ∧ h' = h2 ∧ L = [(b, Row .u32 Ty.uint32 (p ++ w))] ∧ rd ρ 88 = .int .i64 k ∧ rd ρ 10 = .int .u64 c ∧ rd ρ 9 = .int .u64 bo ∧ k ≤ m + 2 ∧ w.length = u.length ∧ (∀ x ∈ w, x < 4294967296) ∧ c < 4294967296 ∧ bo ≤ 1 ∧ Hq (w.drop k = u.drop k) ∧ Hq (evl 4294967296 (w.take k) + G * evl 4294967296 ((dg 4294967296 Dv).take k) = evl 4294967296 (u.take k) + (c + bo) * 4294967296 ^ k)) (m + 2)
          ⟨0, u, 0, 0, rfl, rfl, rfl, rfl, rfl, rfl, by omega, rfl, huB, by omega, by omega, ⟨rfl⟩, ⟨by simp [evl_nil]⟩⟩ ?_
        conv => whnf
        repeat intro _
        rename_i r2 h3 L3 hI
        obtain ⟨k, w, c, bo, rfl, rfl, rfl, e0, e1, e2, hk, hwl, hwB, hc, hbo, hwd, heq⟩ := hI
        conv at e0 => lhs; whnf
        subst e0
        conv at e1 => lhs; whnf
        subst e1
        conv at e2 => lhs; whnf
        subst e2
        have hdk := dg_getD_lt two_le_B Dv k
        have hwk := getD_lt (b := 4294967296) (by omega) hwB k
        obtain ⟨xl, hxl⟩ : ∃ xl, xl = (w.getD k 0 + 2 * 4294967296 - c - bo) % 4294967296 := ⟨_, rfl⟩
        have hwu : Hq (w.getD k 0 = u.getD k 0) := ⟨getD_of_drop hwd.out (Nat.le_refl _)⟩
        conv => whnf
        repeat ((first | refine opsI.step ?_ | refine codeI.step ?_); conv => whnf)
        repeat' first
         | (show Idx _ _ _ _ _; first
           | (refine Idx.ws hd k (by omega) (by unfold ln at *; omega) (fun ad hv => ?_); conv => whnf)
           | (refine Idx.one k rfl (by omega) (by omega) ?_; conv => whnf))
         | (show Ld _ _ _ _; first
           | (refine Ld.of (by first | exact hv _ | (rename_i hv; exact hv _)) ?_; conv => whnf)
           | (refine Ld.win 0 rfl (by omega) ?_; conv => whnf))
         | (show WrapN _ _ _; first
           | (refine WrapN.mul32 (x := G) (y := (dg 4294967296 Dv).getD k 0) hGB hdk (fun pq hpq hpq' => ?_); conv => whnf)
           | (refine WrapN.u32e (fun _ _ => ?_); conv => whnf)
           | (refine WrapN.u64 (by omega) (by omega) ?_; conv => whnf)
           | (refine WrapN.u64e (fun _ _ => ?_); conv => whnf)
           | (refine WrapN.i64 (by omega) (by omega) ?_; conv => whnf))
         | (show ShrN _ _ _ _; first
           | (refine ShrN.e 32 (by decide) (by omega) (fun _ _ => ?_); conv => whnf)
           | (refine ShrN.e 63 (by decide) (by omega) (fun _ _ => ?_); conv => whnf))
         | (show Sto _ _ _ _; first
           | (refine Sto.win 0 rfl xl (by omega) (by omega) ?_; conv => whnf)
           | (refine Sto.winE 0 rfl (by omega) (fun _ _ => ?_); conv => whnf))
         | ((first | refine opsI.step ?_ | refine codeI.step ?_); conv => whnf)
         | (show cnd _ _ _; first
           | (refine cnd_lt (fun _ => ?_) (fun _ => ?_) <;> first | (exfalso; omega) | (conv => whnf))
           | (refine cnd_eq (fun _ => ?_) (fun _ => ?_) <;> first | (exfalso; omega) | (conv => whnf)))
        · refine ⟨rfl, m + 2 - (k + 1), by omega, k + 1, _, (pq + c) / 4294967296, if w.getD k 0 < (pq + c) % 4294967296 + bo then 1 else 0, rfl, rfl, rfl, vi (by omega), vi (by omega), vi (by split <;> omega), by omega, by simp [hwl], mem_set_lt hwB (by omega), by omega, by split <;> omega, ⟨drop_of_drop hwd.out⟩, ⟨back_step (s := pq + c) (by omega) (by rw [hpq.out]) (by rw [← hwu.out]; split <;> omega) heq.out⟩⟩
        · obtain rfl : k = m + 2 := by omega
          have hE := last_step (x := xl) (E := 0) (by omega) (by unfold ln at hm; omega) hc (by rw [← hwu.out]; omega) heq.out
          rw [evl_dg two_le_B, ← hUt.out] at hE
          have hfin := (digit_end hD0.out hq.out hqG hGq hE (.inr (Nat.zero_mul _))).1 (Nat.zero_mul _)
          refine RetN.done ⟨w.set (m + 2) xl, rfl, rfl, vi (by have := hfin.1; omega), by simp [hwl], mem_set_lt hwB (by omega), ?_⟩
          rw [evl_whole (by simp; omega) (drop_of_drop hwd.out) htop.out]
          exact hfin.2
        · obtain rfl : k = m + 2 := by omega
          have hE := last_step (x := xl) (E := 1) (by omega) (by unfold ln at hm; omega) hc (by rw [← hwu.out]; omega) heq.out
          rw [evl_dg two_le_B, ← hUt.out, Nat.one_mul] at hE
          obtain ⟨y, hy⟩ : ∃ y, y = w.set (m + 2) xl := ⟨_, rfl⟩
          have hyl : y.length = u.length := by rw [hy]; simp [hwl]
          have hyB : ∀ x ∈ y, x < 4294967296 := by rw [hy]; exact mem_set_lt hwB (by omega)
          have hyd : Hq (y.drop (m + 3) = u.drop (m + 3)) := ⟨by rw [hy]; exact drop_of_drop hwd.out⟩
          rw [← hy] at hE
          have hpos : 0 < 4294967296 ^ (m + 3) := Nat.pow_pos (by omega)
          have hfin := (digit_end hD0.out hq.out hqG hGq hE (.inl (evl_low two_le_B hyB (by omega)))).2 hpos
          have hG1 := hfin.1
          replace hfin := Hq.mk hfin.2
          rw [← hy]
          replace hE := Hq.mk hE
          replace hpos := Hq.mk hpos
          refine LoopN.of (fun r ρ h' L => ∃ (k : Nat) (z : List Nat) (c : Nat), r = m + 2 - k ∧ h' = h3 ∧ L = [(b, Row .u32 Ty.uint32 (p ++ z))] ∧ rd ρ 141 = .int .i64 k ∧ rd ρ 10 = .int .u64 c ∧ k ≤ m + 2 ∧ z.length = u.length ∧ (∀ x ∈ z, x < 4294967296) ∧ c ≤ 1 ∧ Hq (z.drop k = y.drop k) ∧ Hq (evl 4294967296 (z.take k) + c * 4294967296 ^ k = evl 4294967296 (y.take k) + evl 4294967296 ((dg 4294967296 Dv).take k))) (m + 2)
            ⟨0, y, 0, rfl, rfl, rfl, rfl, rfl, by omega, hyl, hyB, by omega, ⟨rfl⟩, ⟨by simp [evl_nil]⟩⟩ ?_
          conv => whnf
          repeat intro _
          rename_i r3 h4 L4 hI
          obtain ⟨k, z, c, rfl, rfl, rfl, e0, e1, hk, hzl, hzB, hc, hzd, heq⟩ := hI
          conv at e0 => lhs; whnf
          subst e0
          conv at e1 => lhs; whnf
          subst e1
          have hdk := dg_getD_lt two_le_B Dv k
          have hzk := getD_lt (b := 4294967296) (by omega) hzB k
          obtain ⟨s3, hs3⟩ : ∃ s3, s3 = z.getD k 0 + c + (dg 4294967296 Dv).getD k 0 := ⟨_, rfl⟩
          obtain ⟨x3, hx3⟩ : ∃ x3, x3 = s3 % 4294967296 := ⟨_, rfl⟩
          obtain ⟨x4, hx4⟩ : ∃ x4, x4 = (z.getD k 0 + c) % 4294967296 := ⟨_, rfl⟩
          have hzu : Hq (z.getD k 0 = y.getD k 0) := ⟨getD_of_drop hzd.out (Nat.le_refl _)⟩
          conv => whnf
          repeat ((first | refine opsI.step ?_ | refine codeI.step ?_); conv => whnf)
          repeat' first
           | (show Idx _ _ _ _ _; first
             | (refine Idx.ws hd k (by omega) (by unfold ln at *; omega) (fun ad hv => ?_); conv => whnf)
             | (refine Idx.one k rfl (by omega) (by omega) ?_; conv => whnf))
           | (show Ld _ _ _ _; first
             | (refine Ld.of (by first | exact hv _ | (rename_i hv; exact hv _)) ?_; conv => whnf)
             | (refine Ld.win 0 rfl (by omega) ?_; conv => whnf))
           | (show ShrN _ _ _ _; first
             | (refine ShrN.e 32 (by decide) (by omega) (fun _ _ => ?_); conv => whnf))
           | (show WrapN _ _ _; first
             | (refine WrapN.u32e (fun _ _ => ?_); conv => whnf)
             | (refine WrapN.i64 (by omega) (by omega) ?_; conv => whnf)
             | (refine WrapN.u64 (by omega) (by omega) ?_; conv => whnf))
           | (show Sto _ _ _ _; first
             | (refine Sto.win 0 rfl x3 (by omega) (by omega) ?_; conv => whnf)
             | (refine Sto.win 0 rfl x4 (by omega) (by omega) ?_; conv => whnf))
           | ((first | refine opsI.step ?_ | refine codeI.step ?_); conv => whnf)
           | (show cnd _ _ _; first
             | (refine cnd_lt (fun _ => ?_) (fun _ => ?_) <;> first | (exfalso; omega) | (conv => whnf)))
          · refine ⟨rfl, m + 2 - (k + 1), by omega, k + 1, _, s3 / 4294967296, rfl, rfl, rfl, vi (by omega), vi (by omega), by omega, by simp [hzl], mem_set_lt hzB (by omega), by omega, ⟨drop_of_drop hzd.out⟩, ⟨by rw [hx3]; exact add_step (by omega) (by rw [← hzu.out]; exact hs3) heq.out⟩⟩
          · obtain rfl : k = m + 2 := by omega
            have hz0 : (dg 4294967296 Dv).getD (m + 2) 0 = 0 := getD_out (by unfold ln at hm; omega)
            have hA := add_step (b := 4294967296) (o := z) (da := y) (db := dg 4294967296 Dv) (k := m + 2) (c := c) (s := z.getD (m + 2) 0 + c) (by omega) (by rw [← hzu.out, hz0]; rfl) heq.out
            rw [evl_take_all (l := dg 4294967296 Dv) (by unfold ln at hm; omega), evl_dg two_le_B, hfin.out] at hA
            rw [← hx4] at hA
            have hB := mem_set_lt (k := m + 2) (x := x4) hzB (by omega)
            have hY := end_mod hA (evl_low two_le_B hB (by simp; omega)) (Nat.lt_of_lt_of_le (Nat.lt_trans (Nat.mod_lt _ hD0.out) hDB.out) (Nat.pow_le_pow_right (by omega) (by omega)))
            refine RetN.done ⟨z.set (m + 2) x4, rfl, rfl, vi (by omega), by simp [hzl], hB, ?_⟩
            rw [evl_whole (u := u) (k := m + 3) (by simp; omega) ((drop_of_drop hzd.out).trans hyd.out) htop.out]
            exact hY
end Go.Proofs.YtdemgbmndijkkaaGreatDoor
/- Contracts of package word's functions on natural numbers, sixth part: long division, the greatest common divisor. -/
namespace Go.Vc
open Go Go.Dig
/-- a stretch of an own slice -/
theorem CutA.own {b c : Nat} {l h : Int} {k : Option Addr → Nat → Nat → Prop} (j e : Nat) (hl : l = j) (hh : h = e) (h1 : j ≤ e) (h2 : e ≤ c) (h3 : j < c) (hk : k (some ⟨b, j, none⟩) (e - j) (c - j)) : CutA (some ⟨b, 0, none⟩) l h c 1 k :=
  ⟨j, e, some ⟨b, j, none⟩, e - j, c - j, hl, hh, h1, h2, by rw [if_neg (by omega)]; simp [add_lit], rfl, rfl, hk⟩
/-- copy a slice of numbers to the start of an own block -/
theorem Ext.copyWs {T : Tab} {op : Op} {xs : List Operand} {h : Heap} {L : Own} {k : Value → Heap → Own → Prop} {dx sx : Operand} {dT sT e : TypeId} {z : List Value} {bytes : Nat}
    (hop : op = .call { callee := .builtin .copy, args := #[dx, sx], argTypes := #[dT, sT] }) (hxs : xs = [dx, sx]) (ht : T.und dT = some (.slice e)) (hi : T.inf e = some (z, bytes)) (hz : z.length = 1)
    (n : Nat) {b dLen dCap : Nat} {kd : IntKind} {old l : List Nat} {s : Sl} {ET : TypeId} (hn : L[n]? = some (b, Row kd ET old)) (hfit : dLen ≤ old.length) (hs : Ws kd h s l) (hl : l.length ≤ dLen)
    (hk : k (.int .i64 (l.length : Nat)) h (L.set n (b, Row kd ET (l ++ old.drop l.length)))) :
    Ext T op xs [.slice (some ⟨b, 0, none⟩) dLen dCap, s.val] h L k := by
  refine Ext.copy hop hxs ht hi hz n (old := old.map (vu kd)) hn (by simp; omega) (l.map (vu kd)) (by rw [hs.len]; simp; omega) (fun h0 => ?_) (by simp [vu, isOne]) ?_
  · obtain ⟨b', off, c, T', fz, h1, h2, h3⟩ := hs.mem (by rintro rfl; simp at h0)
    refine ⟨_, h1, fun j hj => ?_⟩
    rw [add_lit]
    refine Has.imm h2 ?_
    simp at hj
    rw [h3 j hj]; simp [hj, vu, List.getD_eq_getElem?_getD]
  · have e : (old.map (vu kd)).take 0 ++ l.map (vu kd) ++ (old.map (vu kd)).drop (0 + (l.map (vu kd)).length) = (l ++ old.drop l.length).map (vu kd) := by simp
    rw [e]; simpa only [List.length_map] using hk
end Go.Vc
namespace Go.Proofs.YtdemgbmndijkkaaGreatDoor
open Go Go.Vc Go.Dig

theorem cmp_lt0 {m n : Nat} (h : m < n) : cmpI m n = -1 := by simp [cmpI, h]
theorem cmp_ge0 {m n : Nat} (h : n ≤ m) : 0 ≤ cmpI m n ∧ cmpI m n ≤ 1 := by unfold cmpI; split <;> (try split) <;> omega
theorem one_digit {n : Nat} (h : ln 4294967296 n = 1) : (dg 4294967296 n).getD 0 0 = n ∧ 0 < n ∧ n < 4294967296 := by
  obtain ⟨x, hx⟩ : ∃ x, dg 4294967296 n = [x] := List.length_eq_one_iff.1 h
  have e := evl_dg two_le_B n
  rw [hx] at e
  have e : x = n := by simpa [evl_cons, evl_nil] using e
  have hlt := dg_lt two_le_B n x (by simp [hx])
  subst e
  refine ⟨by rw [hx]; rfl, ?_, hlt⟩
  rcases Nat.eq_zero_or_pos x with h0 | h0
  · rw [h0, ln_zero] at h; omega
  · exact h0
theorem ln_shl {m s : Nat} (hs : s ≤ 31) : ln 4294967296 (m * 2 ^ s) ≤ ln 4294967296 m + 1 := by
  have h1 : ln 4294967296 (2 ^ s) ≤ 1 := (ln_le_iff two_le_B).2 (Nat.lt_of_le_of_lt (Nat.pow_le_pow_right (by omega) hs) (by decide))
  have h2 := ln_mul two_le_B m (2 ^ s)
  omega

set_option maxRecDepth 20000 in
set_option maxHeartbeats 4000000 in
theorem Div_ct (h : Heap) (a b : Sl) (m n : Nat) (ha : IsNat h a m) (hb : IsNat h b n) (la : ln 4294967296 m ≤ 8589934592) (lb : ln 4294967296 n ≤ 8589934592) (h0 : n ≠ 0) :
    Fn0 T F.word_Nat_Div [a.val, b.val] h fun v h' => ∃ q r : Sl, v = .tuple #[q.val, r.val] ∧ IsNat h' q (m / n) ∧ IsNat h' r (m % n) := by
  have hal := ha.len
  have hbl := hb.len
  have hmn : n ≤ m → ln 4294967296 n ≤ ln 4294967296 m := fun hh => ln_mono two_le_B hh
  have hn1 : 1 ≤ ln 4294967296 n := Nat.pos_of_ne_zero fun e => h0 ((ln_eq_zero two_le_B).1 e)
  have hd1 := dg_getD_lt two_le_B n 0
  have hdt := dg_getD_lt two_le_B n (ln 4294967296 n - 1)
  have hlb : ln 4294967296 m < ln 4294967296 n → m < n := fun hh => lt_of_ln two_le_B hh
  refine fn0_of_codeI ok D.word_Nat_Div rfl ?_
  conv => whnf
  repeat ((first | refine opsI.step ?_ | refine codeI.step ?_); conv => whnf)
  by_cases hlt : m < n
  · refine CallN.fn rfl (Cmp_ct h a b m n ha hb (by omega) (by omega)) (fun v h' hl hr => ?_)
    obtain ⟨rfl, rfl⟩ := hr
    rw [cmp_lt0 hlt]
    conv => whnf
    repeat ((first | refine opsI.step ?_ | refine codeI.step ?_); conv => whnf)
    repeat' first
     | ((first | refine opsI.step ?_ | refine codeI.step ?_); conv => whnf)
     | (show cnd _ _ _; first
       | (refine cnd_lt (fun _ => ?_) (fun _ => ?_) <;> first | (exfalso; omega) | (conv => whnf)))
    exact RetN.all ⟨⟨none, 0, 0⟩, a, rfl, by rw [Nat.div_eq_of_lt hlt]; unfold IsNat; rw [dg_zero]; exact Ws.nil rfl, by rw [Nat.mod_eq_of_lt hlt]; exact ha⟩
  · refine CallN.fn rfl (Cmp_ct h a b m n ha hb (by omega) (by omega)) (fun v h' hl hr => ?_)
    obtain ⟨rfl, rfl⟩ := hr
    have hc := cmp_ge0 (m := m) (n := n) (by omega)
    replace hmn := hmn (by omega)
    obtain ⟨c, hcc⟩ : ∃ c, c = cmpI m n := ⟨_, rfl⟩
    rw [← hcc] at hc ⊢
    clear hcc
    conv => whnf
    repeat ((first | refine opsI.step ?_ | refine codeI.step ?_); conv => whnf)
    repeat' first
     | (show Idx _ _ _ _ _; first
       | (refine Idx.ws hb 0 (by omega) (by unfold ln at *; omega) (fun ad hv => ?_); conv => whnf)
       | (refine Idx.ws hb (ln 4294967296 n - 1) (by omega) (by unfold ln at *; omega) (fun ad hv => ?_); conv => whnf))
     | (show Ld _ _ _ _; first
       | (refine Ld.of (by first | exact hv _ | (rename_i hv; exact hv _)) ?_; conv => whnf))
     | ((first | refine opsI.step ?_ | refine codeI.step ?_); conv => whnf)
     | (show WrapN _ _ _; first
       | (refine WrapN.i64 (by omega) (by omega) ?_; conv => whnf))
     | (show cnd _ _ _; first
       | (refine cnd_lt (fun _ => ?_) (fun _ => ?_) <;> first | (exfalso; omega) | (conv => whnf))
       | (refine cnd_eq (fun _ => ?_) (fun _ => ?_) <;> first | (exfalso; omega) | (conv => whnf)))
    · obtain ⟨e1, e2, e3⟩ := one_digit (n := n) (by omega)
      refine CallN.fn rfl (DivSmall_ct _ a m ((dg 4294967296 n).getD 0 0) ha (by omega) hd1 (by omega)) (fun v h' hl hr => ?_)
      obtain ⟨q, rfl, hq⟩ := hr
      rw [e1] at hq ⊢
      have hr := Nat.mod_lt m e2
      obtain ⟨r, hrr⟩ : ∃ r, r = m % n := ⟨_, rfl⟩
      rw [← hrr] at hr ⊢
      conv => whnf
      repeat ((first | refine opsI.step ?_ | refine codeI.step ?_); conv => whnf)
      repeat' first
       | (show CallN _ _ _ _ _ _; first
         | (refine CallN.fn rfl (Small_ct _ r (by omega)) (fun v h' hl hr => ?_); obtain ⟨s', rfl, hs'⟩ := hr; conv => whnf))
       | ((first | refine opsI.step ?_ | refine codeI.step ?_); conv => whnf)
       | (show WrapN _ _ _; first
         | (refine WrapN.u64 (by omega) (by omega) ?_; conv => whnf))
      exact RetN.all ⟨q, _, rfl, hq.mono ‹_›, ‹_›⟩
    · refine CallN.fn rfl (LeadingZeros32_ct _ _ hdt) (fun v h' hl hr => ?_)
      obtain ⟨rfl, rfl⟩ := hr
      obtain ⟨t, ht⟩ : ∃ t, t = (dg 4294967296 n).getD (ln 4294967296 n - 1) 0 := ⟨_, rfl⟩
      obtain ⟨s, hs⟩ : ∃ s, s = 32 - bl t := ⟨_, rfl⟩
      obtain ⟨n1, n2, n3, n4, -⟩ := norm32 h0 rfl ht hs
      rw [← ht] at hdt ⊢
      clear ht
      rw [show (32 : Int) - (bl t : Nat) = (s : Nat) by omega]
      have hs31 : s ≤ 31 := by omega
      clear hs n3 n4 hdt hd1
      conv => whnf
      repeat ((first | refine opsI.step ?_ | refine codeI.step ?_); conv => whnf)
      refine CallN.fn rfl (Shl_ct _ b n s hb (by omega) (by omega)) (fun v h1 hle1 hr => ?_)
      obtain ⟨dd, rfl, hdd⟩ := hr
      have hshl := ln_shl (m := m) hs31
      have hDpos : 0 < n * 2 ^ s := Nat.mul_pos (by omega) (Nat.two_pow_pos s)
      have hstart := Hq.mk (div_start (b := 4294967296) (m := m) (n := n) (s := s) (la := ln 4294967296 m) (lb := ln 4294967296 n) two_le_B (lt_pow_ln two_le_B m) (pow_le_of_ln two_le_B (by omega)) (by omega) hmn)
      obtain ⟨D, hD⟩ : ∃ D, D = n * 2 ^ s := ⟨_, rfl⟩
      obtain ⟨E, hE⟩ : ∃ E, E = m * 2 ^ s := ⟨_, rfl⟩
      rw [← hD] at hdd n1 n2 hstart hDpos
      rw [← hE] at hstart hshl
      replace hD := Hq.mk hD
      have hdl := hdd.len
      conv => whnf
      repeat ((first | refine opsI.step ?_ | refine codeI.step ?_); conv => whnf)
      repeat' first
       | (show Mk _ _ _; first
         | (refine Mk.of (ln 4294967296 m + 1) (by omega) (by omega) (by omega) ?_; conv => whnf))
       | (refine ⟨Nat.le_refl _, ?_⟩; conv => whnf)
       | (intro (bu : Nat); conv => whnf)
       | ((first | refine opsI.step ?_ | refine codeI.step ?_); conv => whnf)
       | (show WrapN _ _ _; first
         | (refine WrapN.i64 (by omega) (by omega) ?_; conv => whnf))
      rename_i bu
      refine CallN.fn rfl (Shl_ct _ a m s (ha.mono hle1) (by omega) (by omega)) (fun v h2 hle2 hr => ?_)
      obtain ⟨ee, rfl, hee⟩ := hr
      rw [← hE] at hee
      replace hE := Hq.mk hE
      conv => whnf
      repeat ((first | refine opsI.step ?_ | refine codeI.step ?_); conv => whnf)
      refine Ext.copyWs rfl rfl rfl rfl rfl 0 (old := List.replicate (ln 4294967296 m + 1) 0) (by rw [row_new]; rfl) (by simp) hee (by unfold ln at *; omega) ?_
      obtain ⟨o0, ho0⟩ : ∃ o0, o0 = dg 4294967296 E ++ (List.replicate (ln 4294967296 m + 1) 0).drop (dg 4294967296 E).length := ⟨_, rfl⟩
      rw [← ho0]
      have ol : o0.length = ln 4294967296 m + 1 := by rw [ho0]; simp; unfold ln at *; omega
      have oB : ∀ x ∈ o0, x < 4294967296 := by
        rw [ho0]; intro x hx
        rcases List.mem_append.1 hx with hx | hx
        · exact dg_lt two_le_B _ _ hx
        · have := List.mem_of_mem_drop hx; simp at this; omega
      have oE : evl 4294967296 o0 = E := by
        rw [ho0, evl_append, evl_zeros 4294967296 (l := (List.replicate (ln 4294967296 m + 1) 0).drop _) (fun x hx => by have := List.mem_of_mem_drop hx; simp at this; omega), Nat.mul_zero, Nat.add_zero, evl_dg two_le_B]
      clear ho0
      have hs0 : evl 4294967296 (o0.drop (ln 4294967296 m - ln 4294967296 n + 1)) < D := by rw [evl_div two_le_B oB, oE]; exact hstart.out
      clear hstart
      conv => whnf
      repeat ((first | refine opsI.step ?_ | refine codeI.step ?_); conv => whnf)
      repeat' first
       | (show Mk _ _ _; first
         | (refine Mk.of (ln 4294967296 m - ln 4294967296 n + 1) (by omega) (by omega) (by omega) ?_; conv => whnf))
       | (refine ⟨Nat.le_refl _, ?_⟩; conv => whnf)
       | (intro (bq : Nat); conv => whnf)
       | ((first | refine opsI.step ?_ | refine codeI.step ?_); conv => whnf)
       | (show WrapN _ _ _; first
         | (refine WrapN.i64 (by omega) (by omega) ?_; conv => whnf))
      rename_i bq
      refine LoopN.of (fun r ρ h' L => ∃ (o qs : List Nat), h' = h2 ∧ L = [(bq, Row .u32 Ty.uint32 qs), (bu, Row .u32 Ty.uint32 o)] ∧ rd ρ 12 = .int .i64 ((r : Int) - 1) ∧ r ≤ ln 4294967296 m - ln 4294967296 n + 1 ∧ o.length = ln 4294967296 m + 1 ∧ (∀ x ∈ o, x < 4294967296) ∧ qs.length = ln 4294967296 m - ln 4294967296 n + 1 ∧ (∀ x ∈ qs, x < 4294967296) ∧ Hq (evl 4294967296 (o.drop r) < D) ∧ Hq (evl 4294967296 (o.drop r) + D * evl 4294967296 (qs.drop r) = evl 4294967296 (o0.drop r)) ∧ o.take r = o0.take r) (ln 4294967296 m - ln 4294967296 n + 1)
        ⟨o0, List.replicate (ln 4294967296 m - ln 4294967296 n + 1) 0, rfl, by rw [row_new]; rfl, vi (by omega), Nat.le_refl _, ol, oB, by simp, by simp, ⟨hs0⟩, ⟨by rw [evl_zeros 4294967296 (l := (List.replicate (ln 4294967296 m - ln 4294967296 n + 1) 0).drop _) (fun x hx => by have := List.mem_of_mem_drop hx; simp at this; omega), Nat.mul_zero, Nat.add_zero]⟩, rfl⟩ ?_
      conv => whnf
      repeat intro _
      rename_i k h3 L3 hI
      obtain ⟨o, qs, rfl, rfl, e0, hk, hol, hoB, hql, hqB, hlt', heq, htk⟩ := hI
      conv at e0 => lhs; whnf
      subst e0
      by_cases hk0 : k = 0
      · subst hk0
        conv => whnf
        repeat ((first | refine opsI.step ?_ | refine codeI.step ?_); conv => whnf)
        repeat' first
         | ((first | refine opsI.step ?_ | refine codeI.step ?_); conv => whnf)
         | (show cnd _ _ _; first
           | (refine cnd_le (fun _ => ?_) (fun _ => ?_) <;> first | (exfalso; omega) | (conv => whnf)))
        rw [List.drop_zero, List.drop_zero, List.drop_zero, oE, hE.out, hD.out] at heq
        rw [List.drop_zero, hD.out] at hlt'
        obtain ⟨r1, r2, -⟩ := div_fin heq.out hlt'.out
        refine CallN.keep 0 rfl rfl fun hle3 => ?_
        refine CallN.fn rfl (Of_ct _ ⟨some ⟨bq, 0, none⟩, ln 4294967296 m - ln 4294967296 n + 1, ln 4294967296 m - ln 4294967296 n + 1⟩ qs (Ws.row (by omega)) hqB (by omega)) (fun v h4 hle4 hr => ?_)
        obtain ⟨q', rfl, hq'⟩ := hr
        conv => whnf
        repeat ((first | refine opsI.step ?_ | refine codeI.step ?_); conv => whnf)
        refine CallN.keep 0 rfl rfl fun hle5 => ?_
        refine CallN.fn rfl (Of_ct _ ⟨some ⟨bu, 0, none⟩, ln 4294967296 m + 1, ln 4294967296 m + 1⟩ o (Ws.row (by omega)) hoB (by omega)) (fun v h6 hle6 hr => ?_)
        obtain ⟨u', rfl, hu'⟩ := hr
        have hlu : ln 4294967296 (evl 4294967296 o) ≤ ln 4294967296 m + 1 := by rw [← hol]; exact (ln_le_iff two_le_B).2 (evl_lt two_le_B hoB)
        conv => whnf
        repeat ((first | refine opsI.step ?_ | refine codeI.step ?_); conv => whnf)
        refine CallN.fn rfl (Shr_ct _ u' (evl 4294967296 o) s hu' (by omega) (by omega)) (fun v h7 hle7 hr => ?_)
        obtain ⟨r', rfl, hr'⟩ := hr
        rw [r2] at hr'
        rw [r1] at hq'
        conv => whnf
        repeat ((first | refine opsI.step ?_ | refine codeI.step ?_); conv => whnf)
        exact RetN.all ⟨q', r', rfl, ((hq'.mono hle5).mono hle6).mono hle7, hr'⟩
      · obtain ⟨j, rfl⟩ : ∃ j, k = j + 1 := ⟨k - 1, by omega⟩
        obtain ⟨p, u, rfl, rfl⟩ : ∃ p u, o = p ++ u ∧ p.length = j := ⟨o.take j, o.drop j, (List.take_append_drop j o).symm, by simp; omega⟩
        have hul : p.length + u.length = ln 4294967296 m + 1 := by simpa using hol
        have huB : ∀ x ∈ u, x < 4294967296 := fun x hx => hoB x (List.mem_append_right _ hx)
        have hpB : ∀ x ∈ p, x < 4294967296 := fun x hx => hoB x (List.mem_append_left _ hx)
        obtain ⟨x, u1, rfl⟩ : ∃ x u1, u = x :: u1 := by
          match u, hul with
          | [], h => simp at h; omega
          | x :: u1, _ => exact ⟨x, u1, rfl⟩
        have hdr : (p ++ x :: u1).drop (p.length + 1) = u1 := by rw [List.drop_append]; simp
        rw [hdr] at heq hlt'
        have hxB := huB x (by simp)
        have hx0 : o0.getD p.length 0 = x := by
          have := congrArg (fun l => l.getD p.length 0) htk
          simpa [List.getD_eq_getElem?_getD, List.getElem?_take] using this.symm
        have hE0 := evl_drop (b := 4294967296) (l := o0) (k := p.length) (by omega)
        rw [hx0] at hE0
        have hUD : evl 4294967296 (x :: u1) < D * 4294967296 := by
          rw [evl_cons]
          have : (evl 4294967296 u1 + 1) * 4294967296 ≤ D * 4294967296 := Nat.mul_le_mul_right _ hlt'.out
          rw [Nat.add_mul, Nat.mul_comm] at this; omega
        have hUq := Nat.div_add_mod (evl 4294967296 (x :: u1)) D
        have hqB' : evl 4294967296 (x :: u1) / D < 4294967296 := (Nat.div_lt_iff_lt_mul hDpos).2 (by rw [Nat.mul_comm]; exact hUD)
        have hrD := Nat.mod_lt (evl 4294967296 (x :: u1)) hDpos
        obtain ⟨q, hq⟩ : ∃ q, q = evl 4294967296 (x :: u1) / D := ⟨_, rfl⟩
        obtain ⟨r, hr⟩ : ∃ r, r = evl 4294967296 (x :: u1) % D := ⟨_, rfl⟩
        rw [← hq] at hUq hqB'
        rw [← hr] at hUq hrD
        rw [Nat.mul_comm] at hUq
        have hstep := Hq.mk (div_step heq.out (evl_cons _ _ _) hE0 hUq.symm)
        replace hUq := Hq.mk hUq
        replace hE0 := Hq.mk hE0
        replace hrD := Hq.mk hrD
        have hmm : ln 4294967296 D = (ln 4294967296 n - 2) + 2 := by omega
        replace hq := Hq.mk hq
        replace hr := Hq.mk hr
        replace hUD := Hq.mk hUD
        replace hx0 := Hq.mk hx0
        replace htk := Hq.mk htk
        replace oE := Hq.mk oE
        replace huB := Hq.mk huB
        replace hpB := Hq.mk hpB
        replace hlb := Hq.mk hlb
        replace hc := Hq.mk hc
        replace hs0 := Hq.mk hs0
        rw [show ln 4294967296 n - 1 = (ln 4294967296 n - 2) + 1 by omega] at n2
        conv => whnf
        repeat ((first | refine opsI.step ?_ | refine codeI.step ?_); conv => whnf)
        repeat' first
         | (show CutA _ _ _ _ _ _; first
           | (refine CutA.own p.length (p.length + ln 4294967296 n + 1) (by omega) (by omega) (by omega) (by omega) (by omega) ?_; conv => whnf))
         | ((first | refine opsI.step ?_ | refine codeI.step ?_); conv => whnf)
         | (show WrapN _ _ _; first
           | (refine WrapN.i64 (by omega) (by omega) ?_; conv => whnf))
         | (show cnd _ _ _; first
           | (refine cnd_le (fun _ => ?_) (fun _ => ?_) <;> first | (exfalso; omega) | (conv => whnf)))
        rw [show p.length + ln 4294967296 n + 1 - p.length = (ln 4294967296 n - 2) + 3 by omega]
        refine CallN.own 1 rfl rfl (digit_ct _ bu _ p (x :: u1) dd D (ln 4294967296 n - 2) (hdd.mono hle2) hmm (by omega) n2 (by omega) (by omega) huB.out hUD.out) (fun v h4 La hle4 hr4 => ?_)
        obtain ⟨u', e1, e2, e3, hul', huB', hu'e⟩ := hr4
        rw [← hr.out] at hu'e
        rw [← hq.out] at e3
        subst e1 e2 e3
        refine ⟨_, rfl, ?_⟩
        conv => whnf
        repeat ((first | refine opsI.step ?_ | refine codeI.step ?_); conv => whnf)
        repeat' first
         | (show Idx _ _ _ _ _; first
           | (refine Idx.own p.length (by omega) (by omega) ?_; conv => whnf))
         | (show Sto _ _ _ _; first
           | (refine Sto.ws 0 rfl q (by omega) (by omega) ?_; conv => whnf))
         | ((first | refine opsI.step ?_ | refine codeI.step ?_); conv => whnf)
         | (show WrapN _ _ _; first
           | (refine WrapN.i64 (by omega) (by omega) ?_; conv => whnf))
        refine ⟨rfl, p.length, by omega, p ++ u', qs.set p.length q, rfl, rfl, vi (by omega), by omega, by rw [List.length_append, hul']; exact hul, ?_, by simp [hql], mem_set_lt hqB hqB', ⟨?_⟩, ⟨?_⟩, ?_⟩
        · intro y hy
          rcases List.mem_append.1 hy with hy | hy
          · exact hpB.out y hy
          · exact huB' y hy
        · rw [List.drop_left, hu'e]; exact hrD.out
        · rw [List.drop_left, hu'e, evl_drop (k := p.length) (l := qs.set p.length q) (by simp; omega), getD_set_self _ (by omega), drop_set]; exact hstep.out
        · have := congrArg (fun l => l.take p.length) htk.out
          simp only [List.take_take, Nat.min_eq_left (Nat.le_succ p.length)] at this
          rw [← this, List.take_left, List.take_left]

/-- how two numbers' common divisors are found: the last remainder -/
theorem gcd_step (m n : Nat) : Nat.gcd n (m % n) = Nat.gcd m n := by rw [Nat.gcd_comm, ← Nat.gcd_rec, Nat.gcd_comm]

set_option maxRecDepth 20000 in
theorem GCD_ct (h : Heap) (a b : Sl) (m n : Nat) (ha : IsNat h a m) (hb : IsNat h b n) (la : ln 4294967296 m ≤ 8589934592) (lb : ln 4294967296 n ≤ 8589934592) :
    Fn0 T F.word_Nat_GCD [a.val, b.val] h fun v h' => ∃ s : Sl, v = s.val ∧ IsNat h' s (Nat.gcd m n) := by
  refine fn0_of_codeI ok D.word_Nat_GCD rfl ?_
  conv => whnf
  repeat ((first | refine opsI.step ?_ | refine codeI.step ?_); conv => whnf)
  refine LoopN.of (fun r ρ h' L => ∃ (a b : Sl) (m' n' : Nat), r = n' ∧ L = [] ∧ h.le h' ∧ rd ρ 0 = a.val ∧ rd ρ 1 = b.val ∧ IsNat h' a m' ∧ IsNat h' b n' ∧ ln 4294967296 m' ≤ 8589934592 ∧ ln 4294967296 n' ≤ 8589934592 ∧ Hq (Nat.gcd m' n' = Nat.gcd m n)) n
    ⟨a, b, m, n, rfl, rfl, Heap.le_refl _, rfl, rfl, ha, hb, la, lb, ⟨rfl⟩⟩ ?_
  conv => whnf
  repeat intro _
  rename_i r h1 L1 hI
  obtain ⟨a, b, m', n', rfl, rfl, hle, e0, e1, ha, hb, la, lb, hg⟩ := hI
  conv at e0 => lhs; whnf
  subst e0
  conv at e1 => lhs; whnf
  subst e1
  have hbl := hb.len
  have hz := ln_eq_zero two_le_B (n := r)
  by_cases h0 : r = 0
  · have := hz.2 h0
    clear hz
    conv => whnf
    repeat ((first | refine opsI.step ?_ | refine codeI.step ?_); conv => whnf)
    repeat' first
     | ((first | refine opsI.step ?_ | refine codeI.step ?_); conv => whnf)
     | (show cnd _ _ _; first
       | (refine cnd_lt (fun _ => ?_) (fun _ => ?_) <;> first | (exfalso; omega) | (conv => whnf)))
    refine RetN.all ⟨a, rfl, ?_⟩
    rw [← hg.out, h0, Nat.gcd_zero_right]; exact ha
  · have : ln 4294967296 r ≠ 0 := fun e => h0 (hz.1 e)
    clear hz
    have hmod := Nat.mod_lt m' (Nat.pos_of_ne_zero h0)
    have hlm := ln_mono two_le_B (Nat.le_of_lt hmod)
    conv => whnf
    repeat ((first | refine opsI.step ?_ | refine codeI.step ?_); conv => whnf)
    repeat' first
     | (show CallN _ _ _ _ _ _; first
       | (refine CallN.fn rfl (Div_ct _ _ _ _ _ (by assumption) (by assumption) (by omega) (by omega) (by omega)) (fun v h' hl hr => ?_); obtain ⟨q', r', rfl, hq', hr'⟩ := hr; conv => whnf))
     | ((first | refine opsI.step ?_ | refine codeI.step ?_); conv => whnf)
     | (show cnd _ _ _; first
       | (refine cnd_lt (fun _ => ?_) (fun _ => ?_) <;> first | (exfalso; omega) | (conv => whnf)))
    exact ⟨rfl, m' % r, hmod, b, _, r, m' % r, rfl, rfl, Heap.le_trans hle ‹_›, rfl, rfl, hb.mono ‹_›, ‹_›, by omega, by omega, ⟨by rw [gcd_step]; exact hg.out⟩⟩
end Go.Proofs.YtdemgbmndijkkaaGreatDoor