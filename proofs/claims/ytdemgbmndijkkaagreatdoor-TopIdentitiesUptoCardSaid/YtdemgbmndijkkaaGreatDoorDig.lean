/- Digits of natural numbers to a base: plain mathematics, no program. -/
set_option linter.unusedVariables false
set_option linter.unusedSimpArgs false
namespace Go.Dig

/-- the number that a list of digits denotes, the least significant digit first -/
def evl (b : Nat) : List Nat → Nat
  | [] => 0
  | x :: l => x + b * evl b l

def dgF (b : Nat) : Nat → Nat → List Nat
  | 0, _ => []
  | f + 1, n => if n = 0 then [] else n % b :: dgF b f (n / b)
/-- the digits of a number, without a most significant 0 -/
def dg (b n : Nat) : List Nat := dgF b n n

theorem div_lt {b n : Nat} (hb : 2 ≤ b) (hn : n ≠ 0) : n / b < n := Nat.div_lt_self (by omega) (by omega)

theorem dgF_eq {b : Nat} (hb : 2 ≤ b) : ∀ (f g n : Nat), n ≤ f → n ≤ g → dgF b f n = dgF b g n
  | 0, 0, _, _, _ => rfl
  | 0, g + 1, n, h, _ => by
    have : n = 0 := by omega
    simp [dgF, this]
  | f + 1, 0, n, _, h => by
    have : n = 0 := by omega
    simp [dgF, this]
  | f + 1, g + 1, n, h1, h2 => by
    simp only [dgF]
    split
    · rfl
    · rename_i hn
      have := div_lt hb hn
      rw [dgF_eq hb f g (n / b) (by omega) (by omega)]

theorem dg_zero (b : Nat) : dg b 0 = [] := rfl
theorem dg_pos {b n : Nat} (hb : 2 ≤ b) (hn : n ≠ 0) : dg b n = n % b :: dg b (n / b) := by
  unfold dg
  cases n with
  | zero => exact (hn rfl).elim
  | succ m =>
    simp only [dgF, if_neg hn]
    have := div_lt hb hn
    rw [dgF_eq hb m ((m + 1) / b) _ (by omega) (Nat.le_refl _)]

theorem evl_dg {b : Nat} (hb : 2 ≤ b) (n : Nat) : evl b (dg b n) = n := by
  induction n using Nat.strongRecOn with
  | _ n ih =>
    by_cases hn : n = 0
    · subst hn; rfl
    · rw [dg_pos hb hn, evl, ih _ (div_lt hb hn)]
      exact Nat.mod_add_div n b

theorem dg_lt {b : Nat} (hb : 2 ≤ b) (n : Nat) : ∀ x ∈ dg b n, x < b := by
  induction n using Nat.strongRecOn with
  | _ n ih =>
    by_cases hn : n = 0
    · subst hn; intro x hx; simp [dg_zero] at hx
    · rw [dg_pos hb hn]
      intro x hx
      rcases List.mem_cons.1 hx with rfl | hx
      · exact Nat.mod_lt _ (by omega)
      · exact ih _ (div_lt hb hn) x hx

theorem dg_nil {b n : Nat} (hb : 2 ≤ b) : dg b n = [] ↔ n = 0 := by
  constructor
  · intro h; have := evl_dg hb n; rw [h] at this; exact this.symm
  · rintro rfl; rfl

theorem evl_append (b : Nat) : ∀ (l m : List Nat), evl b (l ++ m) = evl b l + b ^ l.length * evl b m
  | [], m => by simp [evl]
  | x :: l, m => by
    simp only [List.cons_append, evl, evl_append b l m, List.length_cons, Nat.pow_succ]
    rw [Nat.mul_add, ← Nat.mul_assoc, Nat.mul_comm b (b ^ l.length)]
    omega

theorem evl_lt {b : Nat} (hb : 2 ≤ b) : ∀ {l : List Nat}, (∀ x ∈ l, x < b) → evl b l < b ^ l.length
  | [], _ => by simp [evl]
  | x :: l, h => by
    have h0 := h x (by simp)
    have ih := evl_lt hb (l := l) (fun y hy => h y (by simp [hy]))
    simp only [evl, List.length_cons, Nat.pow_succ]
    have : b * (evl b l + 1) ≤ b * b ^ l.length := Nat.mul_le_mul_left _ ih
    rw [Nat.mul_comm (b ^ l.length) b]
    rw [Nat.mul_add, Nat.mul_one] at this
    omega

/-- a list of digits whose last one is not 0 is the list of the digits of its number -/
theorem dg_evl {b : Nat} (hb : 2 ≤ b) : ∀ {l : List Nat}, (∀ x ∈ l, x < b) → (∀ h : l ≠ [], l.getLast h ≠ 0) → dg b (evl b l) = l
  | [], _, _ => rfl
  | x :: l, h, hl => by
    have h0 := h x (by simp)
    have hne : evl b (x :: l) ≠ 0 := by
      intro he
      simp only [evl] at he
      have h1 : x = 0 := by omega
      have h2 : evl b l = 0 := by
        rcases Nat.eq_zero_or_pos (evl b l) with h | h
        · exact h
        · have : b * 1 ≤ b * evl b l := Nat.mul_le_mul_left _ h; omega
      cases l with
      | nil => exact hl (by simp) (by simpa using h1)
      | cons y l =>
        have ih := dg_evl hb (l := y :: l) (fun z hz => h z (by simp [hz])) (fun hh => by have := hl (by simp); rwa [List.getLast_cons hh] at this)
        rw [h2] at ih
        simp [dg_zero] at ih
    rw [dg_pos hb hne]
    have e1 : evl b (x :: l) % b = x := by
      simp only [evl, Nat.add_mul_mod_self_left]; exact Nat.mod_eq_of_lt h0
    have e2 : evl b (x :: l) / b = evl b l := by
      simp only [evl]
      rw [Nat.add_mul_div_left _ _ (by omega), Nat.div_eq_of_lt h0, Nat.zero_add]
    rw [e1, e2]
    congr 1
    cases l with
    | nil => rfl
    | cons y l => exact dg_evl hb (fun z hz => h z (by simp [hz])) (fun hh => by have := hl (by simp); rwa [List.getLast_cons hh] at this)

theorem dg_last {b : Nat} (hb : 2 ≤ b) (n : Nat) : ∀ h : dg b n ≠ [], (dg b n).getLast h ≠ 0 := by
  induction n using Nat.strongRecOn with
  | _ n ih =>
    intro h
    have hn : n ≠ 0 := fun e => h ((dg_nil hb).2 e)
    have hlt := div_lt hb hn
    have e := dg_pos hb hn
    by_cases hq : n / b = 0
    · have : dg b n = [n % b] := by rw [e, hq]; rfl
      simp only [this, List.getLast_singleton]
      have h2 := Nat.mod_add_div n b
      rw [hq] at h2
      omega
    · have hne : dg b (n / b) ≠ [] := fun e => hq ((dg_nil hb).1 e)
      have := ih _ hlt hne
      simp only [e]
      rw [List.getLast_cons hne]
      exact this

/-- how many digits -/
def ln (b n : Nat) : Nat := (dg b n).length
theorem ln_zero (b : Nat) : ln b 0 = 0 := rfl
theorem ln_eq_zero {b n : Nat} (hb : 2 ≤ b) : ln b n = 0 ↔ n = 0 := by rw [ln, List.length_eq_zero_iff, dg_nil hb]
theorem ln_pos {b n : Nat} (hb : 2 ≤ b) (hn : n ≠ 0) : ln b n = ln b (n / b) + 1 := by unfold ln; rw [dg_pos hb hn]; simp
theorem lt_pow_ln {b : Nat} (hb : 2 ≤ b) (n : Nat) : n < b ^ ln b n := by
  have := evl_lt hb (dg_lt hb n)
  rwa [evl_dg hb] at this
/-- a number has at most k digits just if it is below b^k -/
theorem ln_le_iff {b : Nat} (hb : 2 ≤ b) : ∀ {k n : Nat}, ln b n ≤ k ↔ n < b ^ k
  | 0, n => by rw [Nat.le_zero, ln_eq_zero hb]; simp
  | k + 1, n => by
    by_cases hn : n = 0
    · subst hn; simp [ln_zero]; exact Nat.pow_pos (by omega)
    · rw [ln_pos hb hn, Nat.add_le_add_iff_right, ln_le_iff hb, Nat.pow_succ, Nat.div_lt_iff_lt_mul (by omega)]
theorem pow_le_of_ln {b n k : Nat} (hb : 2 ≤ b) (h : k < ln b n) : b ^ k ≤ n := by
  rcases Nat.lt_or_ge n (b ^ k) with h' | h'
  · have := (ln_le_iff hb).2 h'; omega
  · exact h'
theorem ln_mono {b m n : Nat} (hb : 2 ≤ b) (h : m ≤ n) : ln b m ≤ ln b n := (ln_le_iff hb).2 (Nat.lt_of_le_of_lt h (lt_pow_ln hb n))
theorem ln_add {b : Nat} (hb : 2 ≤ b) (m n : Nat) : ln b (m + n) ≤ max (ln b m) (ln b n) + 1 := by
  rw [ln_le_iff hb, Nat.pow_succ]
  have h1 := Nat.lt_of_lt_of_le (lt_pow_ln hb m) (Nat.pow_le_pow_right (by omega) (Nat.le_max_left (ln b m) (ln b n)))
  have h2 := Nat.lt_of_lt_of_le (lt_pow_ln hb n) (Nat.pow_le_pow_right (by omega) (Nat.le_max_right (ln b m) (ln b n)))
  have : b ^ max (ln b m) (ln b n) * 2 ≤ b ^ max (ln b m) (ln b n) * b := Nat.mul_le_mul_left _ hb
  omega
theorem ln_mul {b : Nat} (hb : 2 ≤ b) (m n : Nat) : ln b (m * n) ≤ ln b m + ln b n := by
  rw [ln_le_iff hb, Nat.pow_add]
  by_cases hn : n = 0
  · subst hn; simp; exact Nat.mul_pos (Nat.pow_pos (by omega)) (Nat.pow_pos (by omega))
  · exact Nat.mul_lt_mul_of_lt_of_le (lt_pow_ln hb m) (Nat.le_of_lt (lt_pow_ln hb n)) (Nat.pow_pos (by omega))

/-- without the most significant digits 0 -/
def trim (l : List Nat) : List Nat := (l.reverse.dropWhile (· == 0)).reverse
theorem evl_zeros (b : Nat) : ∀ {l : List Nat}, (∀ x ∈ l, x = 0) → evl b l = 0
  | [], _ => rfl
  | x :: l, h => by simp only [evl]; rw [h x (by simp), evl_zeros b (fun y hy => h y (by simp [hy]))]; simp
/-- a stretch of a list behind which all is 0 and whose own end is not: the digits of its number -/
theorem dg_take {b : Nat} (hb : 2 ≤ b) {l : List Nat} {k : Nat} (hk : k ≤ l.length) (hl : ∀ x ∈ l, x < b) (hz : ∀ i, k ≤ i → i < l.length → l.getD i 0 = 0) (he : k = 0 ∨ l.getD (k - 1) 0 ≠ 0) : dg b (evl b l) = l.take k := by
  have e : evl b l = evl b (l.take k) := by
    conv => lhs; rw [← List.take_append_drop k l]
    rw [evl_append, evl_zeros b (l := l.drop k)]
    · simp
    · intro x hx
      obtain ⟨i, hi, rfl⟩ := List.getElem_of_mem hx
      simp only [List.length_drop] at hi
      have := hz (k + i) (by omega) (by omega)
      rw [List.getElem_drop]
      simpa [List.getD_eq_getElem?_getD, show k + i < l.length by omega] using this
  rw [e]
  refine dg_evl hb (fun x hx => hl x (List.mem_of_mem_take hx)) fun h => ?_
  rcases he with rfl | he
  · simp at h
  · have hk0 : k ≠ 0 := by rintro rfl; simp at h
    rw [List.getLast_eq_getElem]
    simp only [List.length_take, Nat.min_eq_left hk, List.getElem_take]
    simpa [List.getD_eq_getElem?_getD, show k - 1 < l.length by omega] using he

theorem evl_take_succ {b : Nat} {l : List Nat} {k : Nat} (hk : k < l.length) : evl b (l.take (k + 1)) = evl b (l.take k) + b ^ k * l.getD k 0 := by
  rw [List.take_succ_eq_append_getElem hk, evl_append]
  simp [evl, List.length_take, Nat.min_eq_left (Nat.le_of_lt hk), List.getD_eq_getElem?_getD, hk]

theorem getD_lt {b : Nat} (hb : 0 < b) {l : List Nat} (h : ∀ x ∈ l, x < b) (i : Nat) : l.getD i 0 < b := by
  rw [List.getD_eq_getElem?_getD]
  rcases Nat.lt_or_ge i l.length with hi | hi
  · simp [hi]; exact h _ (List.getElem_mem hi)
  · simp [List.getElem?_eq_none hi, hb]


theorem evl_set {b : Nat} : ∀ {l : List Nat} {k : Nat} (x : Nat), k < l.length → evl b (l.set k x) + b ^ k * l.getD k 0 = evl b l + b ^ k * x
  | [], k, x, h => by simp at h
  | y :: l, 0, x, h => by simp [evl]; omega
  | y :: l, k + 1, x, h => by
    have ih := evl_set (b := b) (l := l) (k := k) x (by simpa using h)
    simp only [List.set_cons_succ, evl, List.getD_cons_succ, Nat.pow_succ]
    have e : ∀ z, b ^ k * b * z = b * (b ^ k * z) := fun z => by rw [Nat.mul_comm (b ^ k) b, Nat.mul_assoc]
    rw [e, e]
    have := congrArg (b * ·) ih
    simp only [Nat.mul_add] at this
    omega
theorem evl_take_set {b : Nat} {l : List Nat} {k : Nat} (x : Nat) (hk : k < l.length) : evl b ((l.set k x).take (k + 1)) = evl b (l.take k) + b ^ k * x := by
  rw [evl_take_succ (by simpa using hk)]
  simp [List.take_set_of_le, List.getD_eq_getElem?_getD, hk]
theorem mem_set_lt {b : Nat} {l : List Nat} {k x : Nat} (h : ∀ y ∈ l, y < b) (hx : x < b) : ∀ y ∈ l.set k x, y < b := fun y hy => by
  rcases List.mem_or_eq_of_mem_set hy with h' | rfl
  · exact h y h'
  · exact hx
theorem getD_set_self {l : List Nat} {k : Nat} (x : Nat) (hk : k < l.length) : (l.set k x).getD k 0 = x := by simp [List.getD_eq_getElem?_getD, hk]
theorem getD_set_other {l : List Nat} {k j : Nat} (x : Nat) (h : k ≠ j) : (l.set k x).getD j 0 = l.getD j 0 := by simp [List.getD_eq_getElem?_getD, List.getElem?_set_ne h]
theorem take_len (l : List Nat) : l.take l.length = l := List.take_length
theorem evl_take_all {b : Nat} {l : List Nat} {k : Nat} (h : l.length ≤ k) : evl b (l.take k) = evl b l := by rw [List.take_of_length_le h]

theorem evl_take_next {b : Nat} (l : List Nat) (k : Nat) : evl b (l.take (k + 1)) = evl b (l.take k) + b ^ k * l.getD k 0 := by
  rcases Nat.lt_or_ge k l.length with h | h
  · exact evl_take_succ h
  · rw [List.take_of_length_le (by omega), List.take_of_length_le h, List.getD_eq_getElem?_getD, List.getElem?_eq_none h]; simp
theorem getD_out {l : List Nat} {k : Nat} (h : l.length ≤ k) : l.getD k 0 = 0 := by rw [List.getD_eq_getElem?_getD, List.getElem?_eq_none h]; rfl

/-- of two lists of one length that agree behind a place, the one with the lesser digit there denotes less -/
theorem cmp_at {b : Nat} (hb : 2 ≤ b) : ∀ {l m : List Nat} {k : Nat}, l.length = m.length → (∀ x ∈ l, x < b) → k < l.length → (∀ j, k < j → l.getD j 0 = m.getD j 0) → l.getD k 0 < m.getD k 0 → evl b l < evl b m
  | [], _, _, _, _, h, _, _ => by simp at h
  | x :: l, [], _, h, _, _, _, _ => by simp at h
  | x :: l, y :: m, 0, hl, hx, _, he, hlt => by
    simp only [List.getD_cons_zero] at hlt
    have : l = m := by
      apply List.ext_getElem (by simpa using hl)
      intro i h1 h2
      have := he (i + 1) (by omega)
      simpa [List.getD_eq_getElem?_getD, h1, h2] using this
    subst this
    simp only [evl]; omega
  | x :: l, y :: m, k + 1, hl, hx, hk, he, hlt => by
    have ih := cmp_at hb (l := l) (m := m) (k := k) (by simpa using hl) (fun z hz => hx z (by simp [hz])) (by simpa using hk) (fun j hj => by simpa using he (j + 1) (by omega)) (by simpa using hlt)
    have h0 := hx x (by simp)
    simp only [evl]
    have : b * (evl b l + 1) ≤ b * evl b m := Nat.mul_le_mul_left _ ih
    rw [Nat.mul_add, Nat.mul_one] at this
    omega
theorem eq_of_getD {l m : List Nat} (hl : l.length = m.length) (he : ∀ j, l.getD j 0 = m.getD j 0) : l = m := by
  apply List.ext_getElem hl
  intro i h1 h2
  have := he i
  simpa [List.getD_eq_getElem?_getD, h1, h2] using this
theorem dg_inj {b m n : Nat} (hb : 2 ≤ b) (h : dg b m = dg b n) : m = n := by
  have := evl_dg hb m; rw [h, evl_dg hb] at this; exact this.symm
theorem lt_of_ln {b m n : Nat} (hb : 2 ≤ b) (h : ln b m < ln b n) : m < n := Nat.lt_of_lt_of_le (lt_pow_ln hb m) (pow_le_of_ln hb h)
theorem dg_getD_lt {b : Nat} (hb : 2 ≤ b) (n k : Nat) : (dg b n).getD k 0 < b := getD_lt (by omega) (dg_lt hb n) k
theorem evl_all {b n k : Nat} (hb : 2 ≤ b) (h : ln b n ≤ k) : evl b ((dg b n).take k) = n := by rw [evl_take_all h, evl_dg hb]

/-- -1, 0 or 1 -/
def cmpI (m n : Nat) : Int := if m < n then -1 else if m = n then 0 else 1

/-! ### steps of the loops -/
theorem add_step {b : Nat} {da db o : List Nat} {k c s : Nat} (hk : k < o.length) (hs : s = da.getD k 0 + c + db.getD k 0) (h : evl b (o.take k) + c * b ^ k = evl b (da.take k) + evl b (db.take k)) :
    evl b ((o.set k (s % b)).take (k + 1)) + s / b * b ^ (k + 1) = evl b (da.take (k + 1)) + evl b (db.take (k + 1)) := by
  rw [evl_take_set _ hk, evl_take_next da, evl_take_next db]
  have h2 := Nat.mod_add_div s b
  have h3 : b ^ k * (s % b) + s / b * b ^ (k + 1) = b ^ k * s := by
    conv => rhs; rw [← h2]
    rw [Nat.mul_add, Nat.pow_succ, Nat.mul_comm (s / b), Nat.mul_assoc]
  have h4 : b ^ k * s = b ^ k * da.getD k 0 + c * b ^ k + b ^ k * db.getD k 0 := by rw [hs, Nat.mul_add, Nat.mul_add, Nat.mul_comm c]
  omega
theorem sub_step {b : Nat} {da db o : List Nat} {k c c' r : Nat} (hk : k < o.length) (hr : r + db.getD k 0 + c = da.getD k 0 + c' * b) (h : evl b (o.take k) + evl b (db.take k) = evl b (da.take k) + c * b ^ k) :
    evl b ((o.set k r).take (k + 1)) + evl b (db.take (k + 1)) = evl b (da.take (k + 1)) + c' * b ^ (k + 1) := by
  rw [evl_take_set _ hk, evl_take_next da, evl_take_next db]
  have h4 := congrArg (b ^ k * ·) hr
  simp only [Nat.mul_add] at h4
  have h5 : b ^ k * (c' * b) = c' * b ^ (k + 1) := by rw [Nat.pow_succ, ← Nat.mul_assoc, Nat.mul_comm (b ^ k) c', Nat.mul_assoc]
  have h6 : b ^ k * c = c * b ^ k := Nat.mul_comm _ _
  omega
/-- one digit of a product: the digit at place p and the carry -/
theorem mul_step {b p : Nat} {o : List Nat} {x y c s X A : Nat} (hp : p < o.length) (hs : s = x * y + o.getD p 0 + c) (h : evl b o + c * b ^ p = X + A) :
    evl b (o.set p (s % b)) + s / b * b ^ (p + 1) = X + (A + b ^ p * (x * y)) := by
  have h1 := evl_set (b := b) (s % b) hp
  have h2 := Nat.mod_add_div s b
  have h3 : b ^ p * (s % b) + s / b * b ^ (p + 1) = b ^ p * s := by
    conv => rhs; rw [← h2]
    rw [Nat.mul_add, Nat.pow_succ, Nat.mul_comm (s / b), Nat.mul_assoc]
  have h4 : b ^ p * s = b ^ p * (x * y) + b ^ p * o.getD p 0 + c * b ^ p := by rw [hs, Nat.mul_add, Nat.mul_add, Nat.mul_comm c]
  omega
theorem getD_zeros (m j : Nat) : (List.replicate m 0).getD j 0 = 0 := by
  rw [List.getD_eq_getElem?_getD, List.getElem?_replicate]; split <;> rfl
theorem evl_nil (b : Nat) : evl b [] = 0 := rfl
theorem evl_cons (b x : Nat) (l : List Nat) : evl b (x :: l) = x + b * evl b l := rfl
theorem ln_one (b : Nat) (hb : 2 ≤ b) : ln b 1 = 1 := by rw [ln_pos hb (by omega), Nat.div_eq_of_lt (by omega), ln_zero]
attribute [irreducible] dg dgF evl
end Go.Dig
/- Binary digits and shifts of natural numbers: plain mathematics, no program. -/
namespace Go.Dig

/-- the number of binary digits -/
def bl (n : Nat) : Nat := if n = 0 then 0 else Nat.log2 n + 1
theorem bl_zero : bl 0 = 0 := rfl
theorem bl_pos {n : Nat} (h : n ≠ 0) : bl n = Nat.log2 n + 1 := by simp [bl, h]
theorem bl_le_iff {n k : Nat} : bl n ≤ k ↔ n < 2 ^ k := by
  by_cases h : n = 0
  · subst h; simp [bl_zero, Nat.two_pow_pos]
  · rw [bl_pos h, Nat.succ_le_iff, Nat.log2_lt h]
theorem bl_unique {n k : Nat} (h1 : 2 ^ k ≤ n) (h2 : n < 2 ^ (k + 1)) : bl n = k + 1 := by
  have a := bl_le_iff.2 h2
  have b : ¬ bl n ≤ k := fun h => by have := bl_le_iff.1 h; omega
  omega
theorem lt_bl (n : Nat) : n < 2 ^ bl n := bl_le_iff.1 (Nat.le_refl _)
theorem le_bl {n : Nat} (h : n ≠ 0) : 2 ^ (bl n - 1) ≤ n := by
  rcases Nat.lt_or_ge n (2 ^ (bl n - 1)) with h' | h'
  · have := bl_le_iff.2 h'
    rw [bl_pos h] at this
    omega
  · exact h'
theorem bl_div {n k : Nat} (h : 2 ^ k ≤ n) : bl n = k + bl (n / 2 ^ k) := by
  have hn : n ≠ 0 := by have := Nat.two_pow_pos k; omega
  have hd : n / 2 ^ k ≠ 0 := by
    have := Nat.div_pos h (Nat.two_pow_pos k); omega
  have h1 := lt_bl (n / 2 ^ k)
  have h2 := le_bl hd
  have hb : bl (n / 2 ^ k) = (bl (n / 2 ^ k) - 1) + 1 := by rw [bl_pos hd]; omega
  have e1 : n < 2 ^ (k + bl (n / 2 ^ k)) := by
    rw [Nat.pow_add, Nat.mul_comm]; exact (Nat.div_lt_iff_lt_mul (Nat.two_pow_pos k)).1 h1
  have e2 : 2 ^ (k + (bl (n / 2 ^ k) - 1)) ≤ n := by
    rw [Nat.pow_add, Nat.mul_comm]; exact (Nat.le_div_iff_mul_le (Nat.two_pow_pos k)).1 h2
  have := bl_unique (k := k + (bl (n / 2 ^ k) - 1)) e2 (by rw [show k + (bl (n / 2 ^ k) - 1) + 1 = k + bl (n / 2 ^ k) by omega]; exact e1)
  omega
/-- the number of binary digits by the digits to a base that is a power of 2 -/
theorem bl_dg {p n : Nat} (hp : 1 ≤ p) (hn : n ≠ 0) : bl n = p * (ln (2 ^ p) n - 1) + bl ((dg (2 ^ p) n).getD (ln (2 ^ p) n - 1) 0) := by
  have hb : 2 ≤ 2 ^ p := by have : 2 ^ 1 ≤ 2 ^ p := Nat.pow_le_pow_right (by omega) hp; omega
  induction n using Nat.strongRecOn with
  | _ n ih =>
    by_cases hq : n / 2 ^ p = 0
    · have e : dg (2 ^ p) n = [n % 2 ^ p] := by rw [dg_pos hb hn, hq, dg_zero]
      have hl : ln (2 ^ p) n = 1 := by unfold ln; rw [e]; rfl
      have hlt : n < 2 ^ p := by
        rcases Nat.lt_or_ge n (2 ^ p) with h | h
        · exact h
        · have := Nat.div_pos h (by omega); omega
      rw [hl, e]; simp [Nat.mod_eq_of_lt hlt]
    · have h1 := ih _ (div_lt hb hn) hq
      have h2 := ln_pos hb hn
      have h3 : ln (2 ^ p) (n / 2 ^ p) ≠ 0 := fun h => hq ((ln_eq_zero hb).1 h)
      have hge : 2 ^ p ≤ n := by
        rcases Nat.lt_or_ge n (2 ^ p) with h | h
        · exact (hq (Nat.div_eq_of_lt h)).elim
        · exact h
      rw [bl_div hge, h1, h2]
      have e : (dg (2 ^ p) n).getD (ln (2 ^ p) (n / 2 ^ p) + 1 - 1) 0 = (dg (2 ^ p) (n / 2 ^ p)).getD (ln (2 ^ p) (n / 2 ^ p) - 1) 0 := by
        rw [dg_pos hb hn, show ln (2 ^ p) (n / 2 ^ p) + 1 - 1 = (ln (2 ^ p) (n / 2 ^ p) - 1) + 1 by omega, List.getD_cons_succ]
      rw [e]
      have : p * (ln (2 ^ p) (n / 2 ^ p) + 1 - 1) = p * (ln (2 ^ p) (n / 2 ^ p) - 1) + p := by
        rw [show ln (2 ^ p) (n / 2 ^ p) + 1 - 1 = (ln (2 ^ p) (n / 2 ^ p) - 1) + 1 by omega, Nat.mul_add, Nat.mul_one]
      omega

/-- digit number k -/
theorem dg_getD {b : Nat} (hb : 2 ≤ b) : ∀ (k n : Nat), (dg b n).getD k 0 = n / b ^ k % b
  | 0, n => by
    by_cases hn : n = 0
    · subst hn; simp [dg_zero]
    · rw [dg_pos hb hn]; simp
  | k + 1, n => by
    by_cases hn : n = 0
    · subst hn; simp [dg_zero]
    · rw [dg_pos hb hn, List.getD_cons_succ, dg_getD hb k, Nat.div_div_eq_div_mul, Nat.pow_succ, Nat.mul_comm b]
/-- a list whose entries are the digits of a number denotes the number, as far as it goes -/
theorem evl_digits {b : Nat} (hb : 2 ≤ b) {N : Nat} : ∀ {l : List Nat} {s : Nat}, (∀ i, i < l.length → l.getD i 0 = N / b ^ (s + i) % b) → evl b l = N / b ^ s % b ^ l.length
  | [], s, _ => by rw [evl_nil]; simp [Nat.mod_one]
  | x :: l, s, h => by
    have h0 := h 0 (by simp)
    have ih := evl_digits hb (N := N) (l := l) (s := s + 1) (fun i hi => by have := h (i + 1) (by simpa using hi); rw [List.getD_cons_succ] at this; rw [this]; congr 3; omega)
    simp only [List.getD_cons_zero, Nat.add_zero] at h0
    have e : b ^ (l.length + 1) = b * b ^ l.length := by rw [Nat.pow_succ, Nat.mul_comm]
    rw [evl_cons, ih, h0, List.length_cons, e, Nat.mod_mul, Nat.pow_succ, Nat.div_div_eq_div_mul]

/-- the exponent of 2 in a number -/
def twF : Nat → Nat → Nat
  | 0, _ => 0
  | f + 1, n => if n % 2 = 1 then 0 else twF f (n / 2) + 1
def tw (n : Nat) : Nat := if n = 0 then 0 else twF n n
theorem twF_spec : ∀ (f n : Nat), n ≤ f → n ≠ 0 → ∃ m, n = 2 ^ twF f n * (2 * m + 1)
  | 0, n, h, h0 => by omega
  | f + 1, n, h, h0 => by
    simp only [twF]
    split
    · rename_i ho
      exact ⟨n / 2, by omega⟩
    · rename_i ho
      obtain ⟨m, hm⟩ := twF_spec f (n / 2) (by omega) (by omega)
      refine ⟨m, ?_⟩
      rw [Nat.pow_succ, Nat.mul_comm _ 2, Nat.mul_assoc, ← hm]
      omega
theorem tw_spec {n : Nat} (h : n ≠ 0) : ∃ m, n = 2 ^ tw n * (2 * m + 1) := by
  unfold tw; rw [if_neg h]; exact twF_spec n n (Nat.le_refl _) h
theorem odd_unique : ∀ {a b m m' : Nat}, 2 ^ a * (2 * m + 1) = 2 ^ b * (2 * m' + 1) → a = b ∧ m = m'
  | 0, 0, m, m', h => by simp at h; exact ⟨rfl, by omega⟩
  | 0, b + 1, m, m', h => by
    rw [Nat.pow_succ, Nat.mul_comm _ 2, Nat.mul_assoc] at h
    simp at h
    omega
  | a + 1, 0, m, m', h => by
    rw [Nat.pow_succ, Nat.mul_comm _ 2, Nat.mul_assoc] at h
    simp at h
    omega
  | a + 1, b + 1, m, m', h => by
    rw [Nat.pow_succ, Nat.pow_succ, Nat.mul_comm _ 2, Nat.mul_comm _ 2, Nat.mul_assoc, Nat.mul_assoc] at h
    have := odd_unique (a := a) (b := b) (m := m) (m' := m') (by omega)
    exact ⟨by omega, this.2⟩
theorem tw_unique {n k m : Nat} (h : n = 2 ^ k * (2 * m + 1)) : tw n = k := by
  have hn : n ≠ 0 := by rw [h]; exact Nat.mul_ne_zero (by have := Nat.two_pow_pos k; omega) (by omega)
  obtain ⟨m', h'⟩ := tw_spec hn
  exact (odd_unique (h'.symm.trans h)).1
theorem tw_le {n k : Nat} (h : n ≠ 0) : k ≤ tw n ↔ 2 ^ k ∣ n := by
  obtain ⟨m, hm⟩ := tw_spec h
  constructor
  · intro hk
    rw [hm, show tw n = k + (tw n - k) by omega, Nat.pow_add, Nat.mul_assoc]
    exact Nat.dvd_mul_right _ _
  · rintro ⟨q, hq⟩
    rcases Nat.lt_or_ge (tw n) k with hlt | hge
    · exfalso
      have hq0 : q ≠ 0 := fun e => by subst e; simp at hq; exact h hq
      obtain ⟨m', hm'⟩ := tw_spec hq0
      have : n = 2 ^ (k + tw q) * (2 * m' + 1) := by rw [Nat.pow_add, Nat.mul_assoc, ← hm', ← hq]
      have := tw_unique this
      omega
    · exact hge

/-- the exponent of 2, word by word -/
theorem tw_word {n k w r : Nat} (h : n = 2 ^ (32 * k) * (w + 2 ^ 32 * r)) (hw : w < 2 ^ 32) (h0 : w ≠ 0) : tw n = 32 * k + tw w := by
  obtain ⟨m, hm⟩ := tw_spec h0
  have hk : tw w < 32 := by
    rcases Nat.lt_or_ge (tw w) 32 with hh | hh
    · exact hh
    · have := Nat.pow_le_pow_right (n := 2) (by omega) hh
      have : 2 ^ tw w * 1 ≤ 2 ^ tw w * (2 * m + 1) := Nat.mul_le_mul_left _ (by omega)
      omega
  refine tw_unique (m := m + 2 ^ (31 - tw w) * r) ?_
  have e : (2 : Nat) ^ 32 = 2 ^ tw w * (2 * 2 ^ (31 - tw w)) := by
    rw [← Nat.pow_succ', ← Nat.pow_add]; congr 1; omega
  rw [h, Nat.pow_add, Nat.mul_assoc]
  congr 1
  conv => lhs; rw [e]; lhs; rw [hm]
  rw [Nat.mul_assoc, ← Nat.mul_add]
  congr 1
  rw [Nat.mul_assoc]
  omega
/-- a number whose k least digits are 0 -/
theorem low_zero {b n : Nat} (hb : 2 ≤ b) : ∀ {k : Nat}, (∀ j, j < k → (dg b n).getD j 0 = 0) → n = b ^ k * (n / b ^ k)
  | 0, _ => by simp
  | k + 1, h => by
    have ih := low_zero hb (k := k) (fun j hj => h j (by omega))
    have h1 := h k (by omega)
    rw [dg_getD hb] at h1
    have h2 := Nat.mod_add_div (n / b ^ k) b
    rw [h1, Nat.zero_add, Nat.div_div_eq_div_mul, ← Nat.pow_succ] at h2
    conv => lhs; rw [ih, ← h2]
    rw [Nat.pow_succ, Nat.mul_assoc]

/-- x & -x in 32 bits -/
theorem and_neg {x k m : Nat} (hx : x = 2 ^ k * (2 * m + 1)) (hlt : x < 2 ^ 32) : x &&& (2 ^ 32 - x) = 2 ^ k := by
  have hk : k < 32 := by
    rcases Nat.lt_or_ge k 32 with h | h
    · exact h
    · have := Nat.pow_le_pow_right (n := 2) (by omega) h
      have : 2 ^ k * 1 ≤ 2 ^ k * (2 * m + 1) := Nat.mul_le_mul_left _ (by omega)
      omega
  have hm : m < 2 ^ (31 - k) := by
    have e : (2 : Nat) ^ 32 = 2 ^ k * (2 * 2 ^ (31 - k)) := by
      rw [← Nat.pow_succ', ← Nat.pow_add]; congr 1; omega
    rw [hx, e] at hlt
    have := Nat.lt_of_mul_lt_mul_left hlt
    omega
  have e2 : 2 ^ 32 - x = 2 ^ k * (2 * (2 ^ (31 - k) - (m + 1)) + 1) := by
    have e : (2 : Nat) ^ 32 = 2 ^ k * (2 * 2 ^ (31 - k)) := by
      rw [← Nat.pow_succ', ← Nat.pow_add]; congr 1; omega
    rw [hx, e, ← Nat.mul_sub]
    congr 1
    omega
  rw [e2, hx]
  apply Nat.eq_of_testBit_eq
  intro i
  rw [Nat.testBit_and, Nat.testBit_two_pow_mul, Nat.testBit_two_pow_mul, Nat.testBit_two_pow]
  rcases Nat.lt_or_ge i k with h | h
  · simp [Nat.not_le.2 h, show k ≠ i by omega]
  · obtain ⟨j, rfl⟩ := Nat.exists_eq_add_of_le h
    simp only [Nat.le_add_right, decide_true, Bool.true_and, Nat.add_sub_cancel_left]
    cases j with
    | zero => simp
    | succ j =>
      rw [Nat.testBit_succ, Nat.testBit_succ]
      rw [show (2 * m + 1) / 2 = m by omega, show (2 * (2 ^ (31 - k) - (m + 1)) + 1) / 2 = 2 ^ (31 - k) - (m + 1) by omega, Nat.testBit_two_pow_sub_succ hm]
      have : k ≠ k + (j + 1) := by omega
      simp only [this, decide_false]
      cases m.testBit j <;> simp

/-- or of two numbers whose digits do not meet -/
theorem or_add {x y r : Nat} (hx : x < 2 ^ r) (hy : y % 2 ^ r = 0) : x ||| y = x + y := by
  have : y = 2 ^ r * (y / 2 ^ r) := by have := Nat.mod_add_div y (2 ^ r); omega
  rw [this, Nat.or_comm, ← Nat.two_pow_add_eq_or_of_lt hx, Nat.add_comm]
end Go.Dig