/- Sums of rational numbers, the terms of the exponential series, products of such series: plain mathematics. -/
set_option linter.unusedVariables false
set_option linter.unusedSimpArgs false
namespace Go.An
/-- a sum of the first terms -/
def su (f : Nat → Rat) : Nat → Rat
  | 0 => 0
  | n + 1 => su f n + f n
theorem su_congr {f g : Nat → Rat} : ∀ {n : Nat}, (∀ k, k < n → f k = g k) → su f n = su g n
  | 0, _ => rfl
  | n + 1, h => by rw [su, su, su_congr fun k hk => h k (by omega), h n (by omega)]
theorem su_add (f g : Nat → Rat) : ∀ n, su (fun k => f k + g k) n = su f n + su g n
  | 0 => by unfold su; grind
  | n + 1 => by rw [su, su, su, su_add f g n]; grind
theorem su_mul (c : Rat) (f : Nat → Rat) : ∀ n, su (fun k => c * f k) n = c * su f n
  | 0 => by unfold su; grind
  | n + 1 => by rw [su, su, su_mul c f n]; grind
theorem su_neg (f : Nat → Rat) : ∀ n, su (fun k => - f k) n = - su f n
  | 0 => by unfold su; grind
  | n + 1 => by rw [su, su, su_neg f n]; grind
theorem su_head (f : Nat → Rat) : ∀ n, su f (n + 1) = f 0 + su (fun k => f (k + 1)) n
  | 0 => by unfold su; unfold su; grind
  | n + 1 => by rw [su, su_head f n, su]; grind
theorem su_le {f g : Nat → Rat} : ∀ {n : Nat}, (∀ k, k < n → f k ≤ g k) → su f n ≤ su g n
  | 0, _ => by unfold su; grind
  | n + 1, h => by
    have h1 := su_le (f := f) (g := g) (n := n) fun k hk => h k (by omega)
    have h2 := h n (by omega)
    rw [su, su]; grind
theorem su_nn {f : Nat → Rat} : ∀ {n : Nat}, (∀ k, k < n → 0 ≤ f k) → 0 ≤ su f n
  | 0, _ => by unfold su; grind
  | n + 1, h => by
    have h1 := su_nn (f := f) (n := n) fun k hk => h k (by omega)
    have h2 := h n (by omega)
    rw [su]; grind
theorem su_mono {f : Nat → Rat} (hf : ∀ k, 0 ≤ f k) {m : Nat} : ∀ {n : Nat}, m ≤ n → su f m ≤ su f n
  | 0, h => by rw [show m = 0 by omega]; grind
  | n + 1, h => by
    rcases Nat.lt_or_ge n m with h1 | h1
    · rw [show m = n + 1 by omega]; grind
    · have := su_mono hf h1
      have h2 := hf n
      rw [su]; grind
/-- the absolute value -/
def ab (x : Rat) : Rat := if x < 0 then -x else x
theorem ab_nn (x : Rat) : 0 ≤ ab x := by unfold ab; split <;> grind
theorem le_ab (x : Rat) : x ≤ ab x := by unfold ab; split <;> grind
theorem neg_le_ab (x : Rat) : -x ≤ ab x := by unfold ab; split <;> grind
theorem ab_le {x b : Rat} (h1 : x ≤ b) (h2 : -x ≤ b) : ab x ≤ b := by unfold ab; split <;> grind
theorem ab_add (x y : Rat) : ab (x + y) ≤ ab x + ab y := by
  have := le_ab x; have := le_ab y; have := neg_le_ab x; have := neg_le_ab y
  exact ab_le (by grind) (by grind)
theorem ab_neg (x : Rat) : ab (-x) = ab x := by unfold ab; split <;> split <;> grind
theorem ab_of {x : Rat} (h : 0 ≤ x) : ab x = x := by unfold ab; split <;> grind
theorem mul_nn {a b : Rat} (ha : 0 ≤ a) (hb : 0 ≤ b) : 0 ≤ a * b := Rat.mul_nonneg ha hb
theorem mul_mono {a b c d : Rat} (ha : 0 ≤ a) (hab : a ≤ b) (hc : 0 ≤ c) (hcd : c ≤ d) : a * c ≤ b * d := by
  have h1 := mul_nn ha (show 0 ≤ d - c by grind)
  have h2 := mul_nn (show 0 ≤ b - a by grind) (show 0 ≤ d by grind)
  grind
theorem ab_np {x : Rat} (h : x ≤ 0) : ab x = -x := by unfold ab; split <;> grind
theorem ab_mul (x y : Rat) : ab (x * y) = ab x * ab y := by
  rcases (Rat.le_total : 0 ≤ x ∨ x ≤ 0) with hx | hx <;> rcases (Rat.le_total : 0 ≤ y ∨ y ≤ 0) with hy | hy
  · rw [ab_of hx, ab_of hy, ab_of (mul_nn hx hy)]
  · have := mul_nn hx (show 0 ≤ -y by grind)
    rw [ab_of hx, ab_np hy, ab_np (by grind)]; grind
  · have := mul_nn (show 0 ≤ -x by grind) hy
    rw [ab_np hx, ab_of hy, ab_np (by grind)]; grind
  · have := mul_nn (show 0 ≤ -x by grind) (show 0 ≤ -y by grind)
    rw [ab_np hx, ab_np hy, ab_of (by grind)]; grind
theorem su_ab (f : Nat → Rat) : ∀ n, ab (su f n) ≤ su (fun k => ab (f k)) n
  | 0 => by unfold su; exact ab_le (by grind) (by grind)
  | n + 1 => by
    have h1 := su_ab f n
    have h2 := ab_add (su f n) (f n)
    rw [su, su]; grind
/-- the part of a sum behind its first terms -/
theorem su_part {f : Nat → Rat} {m : Nat} : ∀ {n : Nat}, m ≤ n → ab (su f n - su f m) ≤ su (fun k => ab (f k)) n - su (fun k => ab (f k)) m
  | 0, h => by rw [show m = 0 by omega]; exact ab_le (by grind) (by grind)
  | n + 1, h => by
    rcases Nat.lt_or_ge n m with h1 | h1
    · rw [show m = n + 1 by omega]; exact ab_le (by grind) (by grind)
    · have h1 := su_part (f := f) h1
      have h2 := ab_add (su f n - su f m) (f n)
      rw [su, su]
      rw [show su f n + f n - su f m = su f n - su f m + f n by grind]
      grind
/-- a sum over a triangle, by its rows -/
theorem tri (F : Nat → Nat → Rat) : ∀ n, su (fun l => su (fun j => F j (l - j)) (l + 1)) n = su (fun j => su (F j) (n - j)) n
  | 0 => rfl
  | n + 1 => by
    rw [su, tri F n, su, su, Nat.add_sub_cancel_left, Nat.sub_self]
    rw [show su (F n) 1 = F n 0 by unfold su; unfold su; grind]
    rw [su_congr (f := fun j => su (F j) (n + 1 - j)) (g := fun j => su (F j) (n - j) + F j (n - j)) (n := n) fun k hk => by
      rw [show n + 1 - k = (n - k) + 1 by omega]; rfl]
    rw [su_add]; grind
def sq (F : Nat → Nat → Rat) (n : Nat) : Rat := su (fun j => su (F j) n) n
def tr (F : Nat → Nat → Rat) (n : Nat) : Rat := su (fun j => su (F j) (n - j)) n
theorem sq_tr (F : Nat → Nat → Rat) (n : Nat) : ab (sq F n - tr F n) ≤ sq (fun j k => ab (F j k)) n - tr (fun j k => ab (F j k)) n := by
  unfold sq tr
  have e : ∀ F : Nat → Nat → Rat, su (fun j => su (F j) n) n - su (fun j => su (F j) (n - j)) n = su (fun j => su (F j) n - su (F j) (n - j)) n := fun F => by
    rw [show (fun j => su (F j) n - su (F j) (n - j)) = fun j => su (F j) n + - su (F j) (n - j) from funext fun j => by grind, su_add, su_neg]; grind
  rw [e, e]
  refine Rat.le_trans (su_ab _ _) (su_le fun k hk => su_part (by omega))
theorem tr_sq {F : Nat → Nat → Rat} (h : ∀ j k, 0 ≤ F j k) (n : Nat) : tr F n ≤ sq F n :=
  su_le fun k hk => su_mono (h k) (by omega)
theorem su_tail {f : Nat → Rat} (hf : ∀ k, 0 ≤ f k) {g : Nat → Rat} {n m : Nat} (h : n ≤ m) (hg : ∀ k, k < n → g k ≤ f k) : su g n ≤ su f m :=
  Rat.le_trans (su_le hg) (su_mono hf h)
theorem sq_tr2 {F : Nat → Nat → Rat} (h : ∀ j k, 0 ≤ F j k) (n : Nat) : sq F n ≤ tr F (2 * n) :=
  su_tail (f := fun j => su (F j) (2 * n - j)) (fun k => su_nn fun _ _ => h _ _) (by omega) fun k hk => su_mono (h k) (by omega)
theorem sq_prod (f g : Nat → Rat) (n : Nat) : sq (fun j k => f j * g k) n = su f n * su g n := by
  unfold sq
  rw [su_congr (g := fun j => su g n * f j) fun k _ => by rw [su_mul]; grind, su_mul]; grind
/-- the power x^k, divided by the factorial of k -/
def tx (x : Rat) : Nat → Rat
  | 0 => 1
  | k + 1 => tx x k * x / ((k + 1 : Nat) : Rat)
theorem cast_pos (k : Nat) : (0 : Rat) < ((k + 1 : Nat) : Rat) := by grind
theorem tx_up (x : Rat) (k : Nat) : ((k + 1 : Nat) : Rat) * tx x (k + 1) = x * tx x k := by
  have := cast_pos k
  rw [tx]; grind
theorem div_nn {a b : Rat} (ha : 0 ≤ a) (hb : 0 < b) : 0 ≤ a / b := by
  rw [Rat.div_def]; exact mul_nn ha (Rat.le_of_lt (Rat.inv_pos.2 hb))
theorem tx_nn {x : Rat} (h : 0 ≤ x) : ∀ k, 0 ≤ tx x k
  | 0 => by unfold tx; grind
  | k + 1 => div_nn (mul_nn (tx_nn h k) h) (cast_pos k)
theorem div_mono {a b d : Rat} (hab : a ≤ b) (hd : 0 < d) : a / d ≤ b / d := by
  have := div_nn (show 0 ≤ b - a by grind) hd
  grind
theorem tx_mono {x y : Rat} (hx : 0 ≤ x) (hxy : x ≤ y) : ∀ k, tx x k ≤ tx y k
  | 0 => by unfold tx; grind
  | k + 1 => div_mono (mul_mono (tx_nn hx k) (tx_mono hx hxy k) hx hxy) (cast_pos k)
theorem ab_div {x d : Rat} (h : 0 < d) : ab (x / d) = ab x / d := by
  rw [Rat.div_def, ab_mul, ab_of (Rat.le_of_lt (Rat.inv_pos.2 h)), ← Rat.div_def]
theorem tx_ab (x : Rat) : ∀ k, ab (tx x k) = tx (ab x) k
  | 0 => by unfold tx; exact ab_of (by grind)
  | k + 1 => by rw [tx, tx, ab_div (cast_pos k), ab_mul, tx_ab x k]
theorem tx_bin (x y : Rat) : ∀ l, su (fun j => tx x j * tx y (l - j)) (l + 1) = tx (x + y) l
  | 0 => by unfold su; unfold su; unfold tx; grind
  | l + 1 => by
    have ih := tx_bin x y l
    have h0 := cast_pos l
    have h1 := tx_up (x + y) l
    have key : ((l + 1 : Nat) : Rat) * su (fun j => tx x j * tx y (l + 1 - j)) (l + 1 + 1) = (x + y) * su (fun j => tx x j * tx y (l - j)) (l + 1) := by
      rw [← su_mul]
      rw [su_congr (g := fun j => ((j : Nat) : Rat) * tx x j * tx y (l + 1 - j) + tx x j * (((l + 1 - j : Nat) : Rat) * tx y (l + 1 - j))) fun k hk => by
        have : ((l + 1 : Nat) : Rat) = ((k : Nat) : Rat) + ((l + 1 - k : Nat) : Rat) := by rw [← Rat.natCast_add]; congr 1; omega
        rw [this]; grind]
      rw [su_add]
      rw [su_head (fun j => ((j : Nat) : Rat) * tx x j * tx y (l + 1 - j)) (l + 1)]
      rw [show su (fun j => tx x j * (((l + 1 - j : Nat) : Rat) * tx y (l + 1 - j))) (l + 1 + 1) = su (fun j => tx x j * (((l + 1 - j : Nat) : Rat) * tx y (l + 1 - j))) (l + 1) by
        rw [su, Nat.sub_self]; grind]
      rw [su_congr (f := fun k => ((k + 1 : Nat) : Rat) * tx x (k + 1) * tx y (l + 1 - (k + 1))) (g := fun k => x * (tx x k * tx y (l - k))) fun k _ => by
        rw [tx_up, show l + 1 - (k + 1) = l - k by omega]; grind]
      rw [su_congr (f := fun j => tx x j * (((l + 1 - j : Nat) : Rat) * tx y (l + 1 - j))) (g := fun k => y * (tx x k * tx y (l - k))) fun k hk => by
        rw [show l + 1 - k = (l - k) + 1 by omega, tx_up]; grind]
      rw [su_mul, su_mul]; grind
    rw [ih] at key
    rw [← h1] at key
    have h2 : ((l + 1 : Nat) : Rat) ≠ 0 := by grind
    have h3 := Rat.inv_mul_cancel _ h2
    have : ∀ z : Rat, z = (((l + 1 : Nat) : Rat))⁻¹ * (((l + 1 : Nat) : Rat) * z) := fun z => by grind
    rw [this (su _ _), key, ← this]
/-- what the exponential's series has summed -/
def ex (x : Rat) (n : Nat) : Rat := su (tx x) n
theorem tr_ex (x y : Rat) (n : Nat) : tr (fun j k => tx x j * tx y k) n = ex (x + y) n := by
  unfold tr ex
  rw [← tri]
  exact su_congr fun l _ => tx_bin x y l
theorem ex_mul_le {x y : Rat} (hx : 0 ≤ x) (hy : 0 ≤ y) (n : Nat) : ex x n * ex y n ≤ ex (x + y) (2 * n) := by
  rw [← tr_ex, ex, ex, ← sq_prod]
  exact sq_tr2 (fun j k => mul_nn (tx_nn hx j) (tx_nn hy k)) n
theorem ex_le_mul {x y : Rat} (hx : 0 ≤ x) (hy : 0 ≤ y) (n : Nat) : ex (x + y) n ≤ ex x n * ex y n := by
  rw [← tr_ex, ex, ex, ← sq_prod]
  exact tr_sq (fun j k => mul_nn (tx_nn hx j) (tx_nn hy k)) n
theorem ex_mono {x : Rat} (hx : 0 ≤ x) {m n : Nat} (h : m ≤ n) : ex x m ≤ ex x n := su_mono (tx_nn hx) h
theorem ex_nn {x : Rat} (hx : 0 ≤ x) (n : Nat) : 0 ≤ ex x n := su_nn fun _ _ => tx_nn hx _
theorem ex_le {x y : Rat} (hx : 0 ≤ x) (hxy : x ≤ y) (n : Nat) : ex x n ≤ ex y n := su_le fun k _ => tx_mono hx hxy k
theorem ex_one {x : Rat} (hx : 0 ≤ x) (n : Nat) : 1 ≤ ex x (n + 1) := by
  have h := ex_mono hx (show 1 ≤ n + 1 by omega)
  rw [show ex x 1 = 1 by unfold ex su su tx; grind] at h
  exact h
end Go.An
/- Bounds of the exponential and its law of sums: plain mathematics. -/
namespace Go.An
/-- upper and lower bounds of what a growing row comes to -/
def Ub (s : Nat → Rat) (b : Rat) : Prop := ∀ n, s n ≤ b
def Lb (s : Nat → Rat) (a : Rat) : Prop := ∀ b, Ub s b → a ≤ b
theorem Lb.of {s : Nat → Rat} {a : Rat} (n : Nat) (h : a ≤ s n) : Lb s a := fun _ hb => Rat.le_trans h (hb n)
theorem Lb.mono {s : Nat → Rat} {a c : Rat} (h : Lb s a) (hc : c ≤ a) : Lb s c := fun b hb => Rat.le_trans hc (h b hb)
theorem Ub.mono {s : Nat → Rat} {a c : Rat} (h : Ub s a) (hc : a ≤ c) : Ub s c := fun n => Rat.le_trans (h n) hc
theorem le_div {a b c : Rat} (hc : 0 < c) (h : a * c ≤ b) : a ≤ b / c := by
  have := div_mono h hc
  rwa [show a * c / c = a by grind] at this
theorem div_le {a b c : Rat} (hc : 0 < c) (h : b ≤ a * c) : b / c ≤ a := by
  have := div_mono h hc
  rwa [show a * c / c = a by grind] at this
theorem of_le_div {a b c : Rat} (hc : 0 < c) (h : a ≤ b / c) : a * c ≤ b := by
  have := mul_nn (show 0 ≤ b / c - a by grind) (Rat.le_of_lt hc)
  rw [show (b / c - a) * c = b - a * c by grind] at this
  grind
theorem of_div_le {a b c : Rat} (hc : 0 < c) (h : b / c ≤ a) : b ≤ a * c := by
  have := mul_nn (show 0 ≤ a - b / c by grind) (Rat.le_of_lt hc)
  rw [show (a - b / c) * c = a * c - b by grind] at this
  grind
theorem le_cancel {a b c : Rat} (hc : 0 < c) (h : a * c ≤ b * c) : a ≤ b := by
  have := le_div hc h
  rwa [show b * c / c = b by grind] at this
theorem pos_or {a : Rat} (h : 0 ≤ a) : a = 0 ∨ 0 < a := by
  by_cases e : a = 0
  · exact Or.inl e
  · right; grind
theorem Ub.ex_nn {x b : Rat} (hb : Ub (ex x) b) : 0 ≤ b := hb 0
theorem Ub.ex_one {x b : Rat} (hx : 0 ≤ x) (hb : Ub (ex x) b) : 1 ≤ b := Rat.le_trans (Go.An.ex_one hx 0) (hb 1)
theorem Ub.mul {x y b d : Rat} (hx : 0 ≤ x) (hy : 0 ≤ y) (h1 : Ub (ex x) b) (h2 : Ub (ex y) d) : Ub (ex (x + y)) (b * d) := fun n =>
  Rat.le_trans (ex_le_mul hx hy n) (mul_mono (Go.An.ex_nn hx n) (h1 n) (Go.An.ex_nn hy n) (h2 n))
theorem Lb.mul {x y a c : Rat} (hx : 0 ≤ x) (hy : 0 ≤ y) (hc : 0 ≤ c) (h1 : Lb (ex x) a) (h2 : Lb (ex y) c) : Lb (ex (x + y)) (a * c) := fun B hB => by
  have hB0 : 0 ≤ B := hB.ex_nn
  rcases pos_or hc with e | e
  · rw [e]; grind
  · refine of_le_div e (h1 _ fun n => le_div e ?_)
    rcases pos_or (ex_nn hx n) with e2 | e2
    · rw [e2]; grind
    · rw [Rat.mul_comm]
      refine of_le_div e2 (h2 _ fun m => le_div e2 ?_)
      rw [Rat.mul_comm]
      refine Rat.le_trans (mul_mono (ex_nn hx n) (ex_mono hx (Nat.le_max_left n m)) (ex_nn hy m) (ex_mono hy (Nat.le_max_right n m))) ?_
      exact Rat.le_trans (ex_mul_le hx hy _) (hB _)
/-- bounds of an exponential -/
structure ExpB (x a b : Rat) : Prop where
  nn : 0 ≤ a
  bn : 0 < b
  up : 0 ≤ x → Lb (ex x) a ∧ Ub (ex x) b
  dn : x < 0 → Ub (fun n => a * ex (-x) n) 1 ∧ ∀ c, Ub (ex (-x)) c → 1 ≤ b * c
theorem inv_mul_le {a b c : Rat} (hb : 0 < b) (h : a / b ≤ c) : a ≤ c * b := of_div_le hb h
theorem ExpB.lbI {x a b : Rat} (h : ExpB x a b) (hx : x < 0) : Lb (ex (-x)) (1 / b) := fun c hc => by
  have := (h.dn hx).2 c hc
  exact div_le h.bn (by rw [Rat.mul_comm]; exact this)
theorem ExpB.ubI {x a b : Rat} (h : ExpB x a b) (hx : x < 0) (ha : 0 < a) : Ub (ex (-x)) (1 / a) := fun n => by
  have : a * ex (-x) n ≤ 1 := (h.dn hx).1 n
  exact le_div ha (by rw [Rat.mul_comm]; exact this)
theorem one_div_pos {a : Rat} (h : 0 < a) : 0 < 1 / a := by
  rw [Rat.div_def, Rat.one_mul]; exact Rat.inv_pos.2 h
theorem div_mul_div {a b c d : Rat} : (a / b) * (c / d) = (a * c) / (b * d) := by
  rw [Rat.div_def, Rat.div_def, Rat.div_def, Rat.inv_mul_rev]; grind
theorem inv_le {u v : Rat} (hu : 0 < u) (hv : 0 < v) (h : 1 / u ≤ 1 / v) : v ≤ u := by
  have h1 := of_div_le hu h
  have h2 := of_le_div hv (show 1 ≤ u / v by rw [show u / v = 1 / v * u by grind]; exact h1)
  grind
theorem pos_mul {a b : Rat} (ha : 0 < a) (hb : 0 < b) : 0 < a * b := Rat.mul_pos ha hb
/-- exponentials of sums -/
theorem exp_sum {x y a b c d e f : Rat} (h1 : ExpB x a b) (h2 : ExpB y c d) (h3 : ExpB (x + y) e f) : a * c ≤ f ∧ e ≤ b * d := by
  have ha := h1.nn; have hc := h2.nn; have he := h3.nn
  have hb := h1.bn; have hd := h2.bn; have hf := h3.bn
  have mixed : ∀ {x y a b c d e f : Rat}, ExpB x a b → ExpB y c d → ExpB (x + y) e f → 0 ≤ x → y < 0 → a * c ≤ f ∧ e ≤ b * d := by
    intro x y a b c d e f h1 h2 h3 hx hy
    have ha := h1.nn; have hc := h2.nn; have he := h3.nn
    have hb := h1.bn; have hd := h2.bn; have hf := h3.bn
    obtain ⟨l1, u1⟩ := h1.up hx
    have lv := h2.lbI hy
    by_cases hs : 0 ≤ x + y
    · obtain ⟨l3, u3⟩ := h3.up hs
      constructor
      · rcases pos_or hc with hc0 | hc0
        · rw [hc0]; grind
        · have h := Ub.mul hs (show 0 ≤ -y by grind) u3 (h2.ubI hy hc0)
          rw [show x + y + -y = x by grind] at h
          have := l1 _ h
          exact of_le_div hc0 (by rw [show f / c = f * (1 / c) by grind]; exact this)
      · have h := Lb.mul hs (show 0 ≤ -y by grind) (Rat.le_of_lt (one_div_pos hd)) l3 lv
        rw [show x + y + -y = x by grind] at h
        have := h _ u1
        exact of_div_le hd (by rw [show e / d = e * (1 / d) by grind]; exact this)
    · have hs : x + y < 0 := by grind
      constructor
      · rcases pos_or hc with hc0 | hc0
        · rw [hc0]; grind
        · have h := Lb.mul hx (show 0 ≤ -(x + y) by grind) (Rat.le_of_lt (one_div_pos hf)) l1 (h3.lbI hs)
          rw [show x + -(x + y) = -y by grind] at h
          have := h _ (h2.ubI hy hc0)
          have h4 := of_div_le (b := a) hf (by rw [show a / f = a * (1 / f) by grind]; exact this)
          exact of_le_div hc0 (by rw [show f / c = 1 / c * f by grind]; exact h4)
      · rcases pos_or he with he0 | he0
        · rw [he0]; exact mul_nn (Rat.le_of_lt hb) (Rat.le_of_lt hd)
        · have h := Ub.mul hx (show 0 ≤ -(x + y) by grind) u1 (h3.ubI hs he0)
          rw [show x + -(x + y) = -y by grind] at h
          have h4 := of_div_le hd (lv _ h)
          have h5 := of_le_div he0 (show 1 ≤ (b * d) / e by rw [show (b * d) / e = b * (1 / e) * d by grind]; exact h4)
          grind
  by_cases hx : 0 ≤ x
  · by_cases hy : 0 ≤ y
    · obtain ⟨l1, u1⟩ := h1.up hx
      obtain ⟨l2, u2⟩ := h2.up hy
      obtain ⟨l3, u3⟩ := h3.up (by grind)
      exact ⟨Lb.mul hx hy hc l1 l2 _ u3, l3 _ (Ub.mul hx hy u1 u2)⟩
    · exact mixed h1 h2 h3 hx (by grind)
  · have hx : x < 0 := by grind
    by_cases hy : 0 ≤ y
    · have := mixed h2 h1 (by rw [Rat.add_comm]; exact h3) hy hx
      rw [Rat.mul_comm a, Rat.mul_comm b]; exact this
    · have hy : y < 0 := by grind
      have hs : x + y < 0 := by grind
      have hn : -x + -y = -(x + y) := by grind
      constructor
      · rcases pos_or ha with ha0 | ha0
        · rw [ha0]; grind
        rcases pos_or hc with hc0 | hc0
        · rw [hc0]; grind
        have h := Ub.mul (show 0 ≤ -x by grind) (show 0 ≤ -y by grind) (h1.ubI hx ha0) (h2.ubI hy hc0)
        rw [hn] at h
        have := h3.lbI hs _ h
        rw [div_mul_div, Rat.one_mul] at this
        exact inv_le hf (pos_mul ha0 hc0) this
      · rcases pos_or he with he0 | he0
        · rw [he0]; exact mul_nn (Rat.le_of_lt hb) (Rat.le_of_lt hd)
        have h := Lb.mul (show 0 ≤ -x by grind) (show 0 ≤ -y by grind) (Rat.le_of_lt (one_div_pos hd)) (h1.lbI hx) (h2.lbI hy)
        rw [hn] at h
        have := h _ (h3.ubI hs he0)
        rw [div_mul_div, Rat.one_mul] at this
        exact inv_le (pos_mul hb hd) he0 this
/-- the series by nested products: what i divides first -/
def hr (y : Rat) : Nat → Nat → Rat
  | _, 0 => 0
  | i, n + 1 => 1 + y / ((i : Nat) : Rat) * hr y (i + 1) n
theorem hr_ex (y : Rat) : ∀ (n k : Nat), su (fun j => tx y (k + j)) n = tx y k * hr y (k + 1) n
  | 0, k => by rw [hr, Rat.mul_zero]; rfl
  | n + 1, k => by
    rw [su_head, hr, su_congr (g := fun j => tx y (k + 1 + j)) fun j _ => by rw [show k + (j + 1) = k + 1 + j by omega], hr_ex y n (k + 1), tx]
    have := cast_pos k
    grind
theorem ex_hr (y : Rat) (n : Nat) : ex y n = hr y 1 n := by
  have := hr_ex y n 0
  rw [show tx y 0 = 1 from rfl, Rat.one_mul] at this
  rw [← this, ex]
  exact su_congr fun k _ => by rw [Nat.zero_add]
theorem hr_nn {y : Rat} (hy : 0 ≤ y) : ∀ (n i : Nat), 0 < i → 0 ≤ hr y i n
  | 0, i, _ => by rw [hr]; grind
  | n + 1, i, hi => by
    have h1 := hr_nn hy n (i + 1) (by omega)
    obtain ⟨j, rfl⟩ : ∃ j, i = j + 1 := ⟨i - 1, by omega⟩
    have h2 := mul_nn (div_nn hy (cast_pos j)) h1
    rw [hr]; grind
theorem hr_two {y : Rat} (hy : 0 ≤ y) (hy2 : y ≤ 1 / 2) : ∀ (n i : Nat), 0 < i → hr y i n ≤ 2
  | 0, i, _ => by rw [hr]; grind
  | n + 1, i, hi => by
    have h1 := hr_two hy hy2 n (i + 1) (by omega)
    have h0 := hr_nn hy n (i + 1) (by omega)
    obtain ⟨j, rfl⟩ : ∃ j, i = j + 1 := ⟨i - 1, by omega⟩
    have h2 : y / ((j + 1 : Nat) : Rat) ≤ 1 / 2 := div_le (cast_pos j) (by
      have : (1 : Rat) ≤ ((j + 1 : Nat) : Rat) := by
        have : (0 : Rat) ≤ ((j : Nat) : Rat) := by grind
        grind
      grind)
    have h3 := mul_mono (div_nn hy (cast_pos j)) h2 h0 h1
    rw [hr]; grind
end Go.An
/- The program's series for the exponential, as whole numbers, bounds it: plain mathematics. -/
namespace Go.An
/-- the least whole number that is not less than a / d -/
def cd (a d : Nat) : Nat := a / d + if a % d = 0 then 0 else 1
theorem cd_ge {a d : Nat} (hd : 0 < d) : a ≤ cd a d * d := by
  have h := Nat.div_add_mod a d
  unfold cd
  split
  · rename_i e; rw [Nat.add_zero, Nat.mul_comm]; omega
  · rename_i e
    rw [Nat.add_mul, Nat.one_mul, Nat.mul_comm]
    have := Nat.mod_lt a hd; omega
theorem q_le {a b c : Nat} (h : a * b ≤ c) : (a : Rat) * (b : Rat) ≤ (c : Rat) := by
  have : ((a * b : Nat) : Rat) ≤ ((c : Nat) : Rat) := Rat.natCast_le_natCast.2 h
  grind
theorem q_ge {a b c : Nat} (h : c ≤ a * b) : (c : Rat) ≤ (a : Rat) * (b : Rat) := by
  have : ((c : Nat) : Rat) ≤ ((a * b : Nat) : Rat) := Rat.natCast_le_natCast.2 h
  grind
theorem cast_nn (n : Nat) : (0 : Rat) ≤ (n : Rat) := by grind
theorem cast_lt {n : Nat} (h : 0 < n) : (0 : Rat) < (n : Rat) := by
  have : ((1 : Nat) : Rat) ≤ (n : Rat) := Rat.natCast_le_natCast.2 h
  grind
theorem two_pos (w : Nat) : (0 : Rat) < ((2 ^ w : Nat) : Rat) := cast_lt (Nat.two_pow_pos w)
/-- one step of the exponential's series, from below -/
theorem exp_lo {U y H : Rat} {yl low w i : Nat} (hU : U = ((2 ^ w : Nat) : Rat)) (hi : 0 < i) (hy : (yl : Rat) ≤ 256 * y * U) (hH : (low : Rat) ≤ U * H) :
    ((2 ^ w + yl * low / 2 ^ (w + 8) / i : Nat) : Rat) ≤ U * (1 + y / ((i : Nat) : Rat) * H) := by
  have h0 : 0 < U := by rw [hU]; exact two_pos w
  have hi' := cast_lt hi
  obtain ⟨q, hq⟩ : ∃ q, q = yl * low / 2 ^ (w + 8) / i := ⟨_, rfl⟩
  have h1 : q * i ≤ yl * low / 2 ^ (w + 8) := by rw [hq]; exact Nat.div_mul_le_self _ _
  have h2 := Nat.le_trans (Nat.mul_le_mul_right (2 ^ (w + 8)) h1) (Nat.div_mul_le_self (yl * low) (2 ^ (w + 8)))
  have h3 : (q : Rat) * (i : Rat) * (256 * U) ≤ (yl : Rat) * (low : Rat) := by
    have : ((q * i * 2 ^ (w + 8) : Nat) : Rat) ≤ ((yl * low : Nat) : Rat) := Rat.natCast_le_natCast.2 h2
    have e : ((2 ^ (w + 8) : Nat) : Rat) = 256 * U := by
      rw [Nat.pow_add, hU, Rat.natCast_mul]; grind
    rw [Rat.natCast_mul, Rat.natCast_mul, Rat.natCast_mul, e] at this
    exact this
  have h4 := mul_mono (cast_nn yl) hy (cast_nn low) hH
  have h5 : (q : Rat) * (i : Rat) * (256 * U) ≤ (U * (y * H)) * (256 * U) := by grind
  have h6 := le_cancel (show 0 < 256 * U by grind) h5
  have h7 := le_div hi' h6
  rw [← hq, Rat.natCast_add, ← hU]
  rw [show U * (1 + y / ((i : Nat) : Rat) * H) = U + U * (y * H) / ((i : Nat) : Rat) by grind]
  grind
theorem exp_hi {U y H : Rat} {yh high w i : Nat} (hU : U = ((2 ^ w : Nat) : Rat)) (hi : 0 < i) (hy0 : 0 ≤ y) (hy : 256 * y * U ≤ (yh : Rat)) (hH0 : 0 ≤ H) (hH : U * H ≤ (high : Rat)) :
    U * (1 + y / ((i : Nat) : Rat) * H) ≤ ((2 ^ w + cd (cd (yh * high) (2 ^ (w + 8))) i : Nat) : Rat) := by
  have h0 : 0 < U := by rw [hU]; exact two_pos w
  have hi' := cast_lt hi
  obtain ⟨q, hq⟩ : ∃ q, q = cd (cd (yh * high) (2 ^ (w + 8))) i := ⟨_, rfl⟩
  have h1 : cd (yh * high) (2 ^ (w + 8)) ≤ q * i := by rw [hq]; exact cd_ge hi
  have h2 := Nat.le_trans (cd_ge (a := yh * high) (d := 2 ^ (w + 8)) (Nat.two_pow_pos _)) (Nat.mul_le_mul_right (2 ^ (w + 8)) h1)
  have h3 : (yh : Rat) * (high : Rat) ≤ (q : Rat) * (i : Rat) * (256 * U) := by
    have : ((yh * high : Nat) : Rat) ≤ ((q * i * 2 ^ (w + 8) : Nat) : Rat) := Rat.natCast_le_natCast.2 h2
    have e : ((2 ^ (w + 8) : Nat) : Rat) = 256 * U := by
      rw [Nat.pow_add, hU, Rat.natCast_mul]; grind
    rw [Rat.natCast_mul, Rat.natCast_mul, Rat.natCast_mul, e] at this
    exact this
  have h4 := mul_mono (mul_nn (show 0 ≤ 256 * y by grind) (Rat.le_of_lt h0)) hy (mul_nn (Rat.le_of_lt h0) hH0) hH
  have h5 : (U * (y * H)) * (256 * U) ≤ (q : Rat) * (i : Rat) * (256 * U) := by grind
  have h6 := le_cancel (show 0 < 256 * U by grind) h5
  have h7 := div_le hi' h6
  rw [← hq, Rat.natCast_add, ← hU]
  rw [show U * (1 + y / ((i : Nat) : Rat) * H) = U + U * (y * H) / ((i : Nat) : Rat) by grind]
  grind
def expLo (yl w : Nat) : Nat → Nat
  | 0 => 2 ^ w
  | k + 1 => 2 ^ w + yl * expLo yl w k / 2 ^ (w + 8) / (40 - k)
def expHi (yh w : Nat) : Nat → Nat
  | 0 => 2 ^ w * 2
  | k + 1 => 2 ^ w + cd (cd (yh * expHi yh w k) (2 ^ (w + 8))) (40 - k)
theorem expLo_le {U y : Rat} {yl w : Nat} (hU : U = ((2 ^ w : Nat) : Rat)) (hy : (yl : Rat) ≤ 256 * y * U) : ∀ k, k ≤ 40 → (expLo yl w k : Rat) ≤ U * hr y (41 - k) (k + 1)
  | 0, _ => by rw [expLo, hr, hr, hU]; grind
  | k + 1, h => by
    have := exp_lo hU (show 0 < 40 - k by omega) hy (expLo_le hU hy k (by omega))
    rw [expLo, hr, show 41 - (k + 1) = 40 - k by omega, show 40 - k + 1 = 41 - k by omega]
    exact this
theorem le_expHi {U y : Rat} {yh w : Nat} (hU : U = ((2 ^ w : Nat) : Rat)) (hy0 : 0 ≤ y) (hy2 : y ≤ 1 / 2) (hy : 256 * y * U ≤ (yh : Rat)) : ∀ k, k ≤ 40 → ∀ n, U * hr y (41 - k) n ≤ (expHi yh w k : Rat)
  | 0, _, n => by
    have h0 : 0 < U := by rw [hU]; exact two_pos w
    have := hr_two hy0 hy2 n 41 (by omega)
    have := mul_mono (Rat.le_of_lt h0) Rat.le_refl (hr_nn hy0 n 41 (by omega)) this
    rw [expHi, Rat.natCast_mul, ← hU]; grind
  | k + 1, h, 0 => by
    rw [hr, Rat.mul_zero]; exact cast_nn _
  | k + 1, h, n + 1 => by
    have := exp_hi hU (show 0 < 40 - k by omega) hy0 hy (hr_nn hy0 n _ (by omega)) (le_expHi hU hy0 hy2 hy k (by omega) n)
    rw [expHi, hr, show 41 - (k + 1) = 40 - k by omega, show 40 - k + 1 = 41 - k by omega]
    exact this
def sqLo (w v : Nat) : Nat → Nat
  | 0 => v
  | k + 1 => sqLo w v k * sqLo w v k / 2 ^ w
def sqHi (w v : Nat) : Nat → Nat
  | 0 => v
  | k + 1 => cd (sqHi w v k * sqHi w v k) (2 ^ w)
theorem two_mul_rat (y : Rat) (k : Nat) : ((2 ^ k : Nat) : Rat) * y + ((2 ^ k : Nat) : Rat) * y = ((2 ^ (k + 1) : Nat) : Rat) * y := by
  rw [Nat.pow_succ, Rat.natCast_mul]; grind
theorem sqLo_Lb {U y : Rat} {w v : Nat} (hU : U = ((2 ^ w : Nat) : Rat)) (hy0 : 0 ≤ y) (h : Lb (ex y) ((v : Rat) / U)) : ∀ k, Lb (ex (((2 ^ k : Nat) : Rat) * y)) ((sqLo w v k : Rat) / U)
  | 0 => by rw [show ((2 ^ 0 : Nat) : Rat) = 1 from rfl, Rat.one_mul]; exact h
  | k + 1 => by
    have h0 : 0 < U := by rw [hU]; exact two_pos w
    have ih := sqLo_Lb hU hy0 h k
    have hp := mul_nn (Rat.le_of_lt (two_pos k)) hy0
    have := Lb.mul hp hp (div_nn (cast_nn _) h0) ih ih
    rw [two_mul_rat] at this
    refine this.mono ?_
    have h1 : sqLo w v (k + 1) * 2 ^ w ≤ sqLo w v k * sqLo w v k := Nat.div_mul_le_self _ _
    have h2 := q_le h1
    rw [← hU] at h2
    rw [Rat.natCast_mul] at h2
    rw [div_mul_div]
    refine le_div (pos_mul h0 h0) ?_
    rw [show (sqLo w v (k + 1) : Rat) / U * (U * U) = (sqLo w v (k + 1) : Rat) * U by grind]
    exact h2
theorem sqHi_Ub {U y : Rat} {w v : Nat} (hU : U = ((2 ^ w : Nat) : Rat)) (hy0 : 0 ≤ y) (h : Ub (ex y) ((v : Rat) / U)) : ∀ k, Ub (ex (((2 ^ k : Nat) : Rat) * y)) ((sqHi w v k : Rat) / U)
  | 0 => by rw [show ((2 ^ 0 : Nat) : Rat) = 1 from rfl, Rat.one_mul]; exact h
  | k + 1 => by
    have h0 : 0 < U := by rw [hU]; exact two_pos w
    have ih := sqHi_Ub hU hy0 h k
    have hp := mul_nn (Rat.le_of_lt (two_pos k)) hy0
    have := Ub.mul hp hp ih ih
    rw [two_mul_rat] at this
    refine this.mono ?_
    have h1 : sqHi w v k * sqHi w v k ≤ sqHi w v (k + 1) * 2 ^ w := cd_ge (Nat.two_pow_pos _)
    have h2 := q_ge h1
    rw [← hU] at h2
    rw [Rat.natCast_mul] at h2
    rw [div_mul_div]
    refine div_le (pos_mul h0 h0) ?_
    rw [show (sqHi w v (k + 1) : Rat) / U * (U * U) = (sqHi w v (k + 1) : Rat) * U by grind]
    exact h2
theorem expLo_ge (yl w : Nat) (k : Nat) : 2 ^ w ≤ expLo yl w k := by
  cases k with
  | zero => exact Nat.le_refl _
  | succ k => exact Nat.le_add_right _ _
theorem sqLo_ge {w v : Nat} (h : 2 ^ w ≤ v) : ∀ k, 2 ^ w ≤ sqLo w v k
  | 0 => h
  | k + 1 => by
    have := sqLo_ge h k
    rw [sqLo]
    exact (Nat.le_div_iff_mul_le (Nat.two_pow_pos w)).2 (Nat.mul_le_mul this this)
/-- the bracket of the exponential, as multiples of 2^-p -/
def expA (neg : Bool) (yl yh p : Nat) : Nat × Nat :=
  let w := p + 112
  let lo := sqLo w (expLo yl w 40) 8
  let hi := sqHi w (expHi yh w 40) 8
  if neg then (2 ^ (w + p) / hi, cd (2 ^ (w + p)) lo) else (lo / 2 ^ (w - p), cd hi (2 ^ (w - p)))
theorem expA_ok {x : Rat} {neg : Bool} {yl yh p : Nat} (hn : neg = decide (x < 0)) (hx : ab x ≤ 64) (hl : (yl : Rat) ≤ ab x * ((2 ^ (p + 112) : Nat) : Rat)) (hh : ab x * ((2 ^ (p + 112) : Nat) : Rat) ≤ (yh : Rat)) :
    ExpB x (((expA neg yl yh p).1 : Rat) / ((2 ^ p : Nat) : Rat)) (((expA neg yl yh p).2 : Rat) / ((2 ^ p : Nat) : Rat)) := by
  obtain ⟨w, hw⟩ : ∃ w, w = p + 112 := ⟨_, rfl⟩
  rw [← hw] at hl hh
  obtain ⟨U, hU⟩ : ∃ U, U = ((2 ^ w : Nat) : Rat) := ⟨_, rfl⟩
  rw [← hU] at hl hh
  have h0 : 0 < U := by rw [hU]; exact two_pos w
  have hp0 := two_pos p
  have hx0 := ab_nn x
  obtain ⟨y, hy⟩ : ∃ y, y = ab x / 256 := ⟨_, rfl⟩
  have hy0 : 0 ≤ y := by rw [hy]; exact div_nn hx0 (by grind)
  have hy2 : y ≤ 1 / 2 := by rw [hy]; grind
  have e1 : 256 * y = ab x := by grind
  have hL := expLo_le hU (by rw [e1]; exact hl) 40 (by omega)
  have hH := fun n => le_expHi hU hy0 hy2 (by rw [e1]; exact hh) 40 (by omega) n
  have lb : Lb (ex y) ((expLo yl w 40 : Rat) / U) := Lb.of 41 (by
    rw [ex_hr]; exact div_le h0 (by rw [Rat.mul_comm]; exact hL))
  have ub : Ub (ex y) ((expHi yh w 40 : Rat) / U) := fun n => by
    rw [ex_hr]; exact le_div h0 (by rw [Rat.mul_comm]; exact hH n)
  have lb8 := sqLo_Lb hU hy0 lb 8
  have ub8 := sqHi_Ub hU hy0 ub 8
  rw [show ((2 ^ 8 : Nat) : Rat) = 256 from rfl, e1] at lb8 ub8
  have g8 := sqLo_ge (expLo_ge yl w 40) 8
  have e2 : expA neg yl yh p = if neg then (2 ^ (w + p) / sqHi w (expHi yh w 40) 8, cd (2 ^ (w + p)) (sqLo w (expLo yl w 40) 8)) else (sqLo w (expLo yl w 40) 8 / 2 ^ (w - p), cd (sqHi w (expHi yh w 40) 8) (2 ^ (w - p))) := by
    unfold expA; rw [hw]
  rw [e2]
  obtain ⟨lo, hlo⟩ : ∃ v, v = sqLo w (expLo yl w 40) 8 := ⟨_, rfl⟩
  obtain ⟨hi, hhi⟩ : ∃ v, v = sqHi w (expHi yh w 40) 8 := ⟨_, rfl⟩
  rw [← hlo] at lb8 g8 ⊢
  rw [← hhi] at ub8 ⊢
  have hlo0 : 0 < lo := Nat.lt_of_lt_of_le (Nat.two_pow_pos w) g8
  have gl : U ≤ (lo : Rat) := by rw [hU]; exact Rat.natCast_le_natCast.2 g8
  have hhi1 : 1 ≤ (hi : Rat) / U := ub8.ex_one hx0
  have hhi0 : (0 : Rat) < (hi : Rat) := by
    have := of_le_div h0 hhi1
    grind
  clear hlo hhi hL hH lb ub e2
  by_cases hneg : x < 0
  · rw [hn, decide_eq_true hneg, if_pos rfl]
    have ex' : ab x = -x := ab_np (by grind)
    rw [ex'] at lb8 ub8
    obtain ⟨a, ha⟩ : ∃ a, a = 2 ^ (w + p) / hi := ⟨_, rfl⟩
    obtain ⟨b, hb⟩ : ∃ b, b = cd (2 ^ (w + p)) lo := ⟨_, rfl⟩
    have a1 : a * hi ≤ 2 ^ (w + p) := by rw [ha]; exact Nat.div_mul_le_self _ _
    have b1 : 2 ^ (w + p) ≤ b * lo := by rw [hb]; exact cd_ge hlo0
    have e3 : ((2 ^ (w + p) : Nat) : Rat) = U * ((2 ^ p : Nat) : Rat) := by rw [Nat.pow_add, Rat.natCast_mul, hU]
    have a2 := q_le a1
    have b2 := q_ge b1
    rw [e3] at a2 b2
    rw [← ha, ← hb]
    show ExpB x ((a : Rat) / _) ((b : Rat) / _)
    obtain ⟨P, hP⟩ : ∃ P, P = ((2 ^ p : Nat) : Rat) := ⟨_, rfl⟩
    rw [← hP] at a2 b2 hp0 ⊢
    have hb0 : 0 < b := by
      rcases Nat.eq_zero_or_pos b with h | h
      · rw [h, Nat.zero_mul] at b1
        have := Nat.two_pow_pos (w + p); omega
      · exact h
    refine ⟨div_nn (cast_nn _) hp0, ?_, fun h => absurd h (by grind), fun _ => ⟨fun n => ?_, fun c hc => ?_⟩⟩
    · rw [Rat.div_def]; exact pos_mul (cast_lt hb0) (Rat.inv_pos.2 hp0)
    · show (a : Rat) / P * ex (-x) n ≤ 1
      have h1 := mul_mono (div_nn (cast_nn a) hp0) Rat.le_refl (ex_nn (by grind) n) (ub8 n)
      refine Rat.le_trans h1 ?_
      rw [div_mul_div]
      exact div_le (pos_mul hp0 h0) (by grind)
    · have h1 := lb8 c hc
      have h2 := mul_mono (div_nn (cast_nn b) hp0) Rat.le_refl (div_nn (cast_nn lo) h0) h1
      refine Rat.le_trans ?_ h2
      rw [div_mul_div]
      exact le_div (pos_mul hp0 h0) (by grind)
  · rw [hn, decide_eq_false hneg, if_neg (by decide)]
    have ex' : ab x = x := ab_of (by grind)
    rw [ex'] at lb8 ub8
    have ew : w = p + (w - p) := by omega
    obtain ⟨a, ha⟩ : ∃ a, a = lo / 2 ^ (w - p) := ⟨_, rfl⟩
    obtain ⟨b, hb⟩ : ∃ b, b = cd hi (2 ^ (w - p)) := ⟨_, rfl⟩
    have a1 : a * 2 ^ (w - p) ≤ lo := by rw [ha]; exact Nat.div_mul_le_self _ _
    have b1 : hi ≤ b * 2 ^ (w - p) := by rw [hb]; exact cd_ge (Nat.two_pow_pos _)
    have e3 : U = ((2 ^ p : Nat) : Rat) * ((2 ^ (w - p) : Nat) : Rat) := by rw [hU, ew, Nat.pow_add, Rat.natCast_mul, show p + (w - p) - p = w - p by omega]
    have a2 := q_le a1
    have b2 := q_ge b1
    have hv := two_pos (w - p)
    rw [← ha, ← hb]
    show ExpB x ((a : Rat) / _) ((b : Rat) / _)
    obtain ⟨P, hP⟩ : ∃ P, P = ((2 ^ p : Nat) : Rat) := ⟨_, rfl⟩
    obtain ⟨V, hV⟩ : ∃ V, V = ((2 ^ (w - p) : Nat) : Rat) := ⟨_, rfl⟩
    rw [← hP] at hp0 e3 ⊢
    rw [← hV] at a2 b2 hv e3
    have ea : (a : Rat) / P ≤ (lo : Rat) / U := div_le hp0 (by
      rw [e3, show (lo : Rat) / (P * V) * P = (lo : Rat) / V by grind]
      exact le_div hv a2)
    have eb : (hi : Rat) / U ≤ (b : Rat) / P := le_div hp0 (by
      rw [e3, show (hi : Rat) / (P * V) * P = (hi : Rat) / V by grind]
      exact div_le hv b2)
    refine ⟨div_nn (cast_nn _) hp0, by grind, fun _ => ⟨lb8.mono ea, ub8.mono eb⟩, fun h => absurd h hneg⟩
theorem expB_zero : ExpB 0 1 1 := by
  refine ⟨by grind, by grind, fun _ => ⟨Lb.of 1 (by unfold ex su su tx; grind), fun n => ?_⟩, fun h => absurd h (by grind)⟩
  rw [ex_hr]
  cases n with
  | zero => rw [hr]; grind
  | succ n => rw [hr]; grind
end Go.An
/- The logarithm as a series, and its law of products: plain mathematics. -/
namespace Go.An
theorem le_nat (x : Rat) : ∃ n : Nat, x ≤ (n : Rat) := by
  refine ⟨x.ceil.toNat, Rat.le_trans Rat.le_ceil ?_⟩
  rw [← Rat.intCast_natCast]
  exact Rat.intCast_le_intCast.2 (Int.self_le_toNat _)
/-- what is not above by any part 1/n is not above -/
theorem le_of_parts {a b c : Rat} (h : ∀ n : Nat, 0 < n → a ≤ b + c / (n : Rat)) : a ≤ b := by
  rcases (Rat.le_total : a ≤ b ∨ b ≤ a) with h1 | h1
  · exact h1
  by_cases e : a = b
  · rw [e]; exact Rat.le_refl
  have hd : 0 < a - b := by grind
  obtain ⟨n, hn⟩ := le_nat (c / (a - b))
  have h2 := h (n + 1) (by omega)
  have h3 := of_div_le hd hn
  have h4 := of_le_div (cast_pos n) (show a - b ≤ c / ((n + 1 : Nat) : Rat) by grind)
  have h5 : ((n + 1 : Nat) : Rat) = (n : Rat) + 1 := by grind
  rw [h5] at h4
  grind
theorem pow_nn {q : Rat} (h : 0 ≤ q) (n : Nat) : 0 ≤ q ^ n := Rat.pow_nonneg h
theorem pow_le_one {q : Rat} (h : 0 ≤ q) (h1 : q ≤ 1) : ∀ n : Nat, q ^ n ≤ 1
  | 0 => by rw [Rat.pow_zero]; exact Rat.le_refl
  | n + 1 => by
    have := mul_mono (pow_nn h n) (pow_le_one h h1 n) h h1
    rw [Rat.pow_succ]; grind
theorem pow_mono {a b : Rat} (h : 0 ≤ a) (hab : a ≤ b) : ∀ n : Nat, a ^ n ≤ b ^ n
  | 0 => by rw [Rat.pow_zero, Rat.pow_zero]; exact Rat.le_refl
  | n + 1 => by
    have := mul_mono (pow_nn h n) (pow_mono h hab n) h hab
    rw [Rat.pow_succ, Rat.pow_succ]; exact this
theorem pow_small {q : Rat} (h : 0 ≤ q) (h1 : q < 1) : ∀ n : Nat, q ^ n * (1 + (n : Rat) * (1 - q)) ≤ 1
  | 0 => by rw [Rat.pow_zero]; grind
  | n + 1 => by
    have ih := mul_mono (mul_nn (pow_nn h n) (show 0 ≤ 1 + (n : Rat) * (1 - q) by
      have := mul_nn (cast_nn n) (show 0 ≤ 1 - q by grind); grind)) (pow_small h h1 n) h Rat.le_refl
    have h2 := mul_mono (pow_nn h (n + 1)) (pow_le_one h (Rat.le_of_lt h1) (n + 1)) (show 0 ≤ 1 - q by grind) Rat.le_refl
    have e : ((n + 1 : Nat) : Rat) = (n : Rat) + 1 := by grind
    rw [e, Rat.pow_succ]
    rw [Rat.pow_succ] at h2
    grind
/-- powers of a number below 1 vanish -/
theorem le_of_pow {a b c q : Rat} (hq : 0 ≤ q) (hq1 : q < 1) (hc : 0 ≤ c) (h : ∀ n : Nat, a ≤ b + c * q ^ n) : a ≤ b := by
  refine le_of_parts (c := c / (1 - q)) fun n hn => Rat.le_trans (h n) ?_
  have h0 : 0 < 1 - q := by grind
  have h1 := pow_small hq hq1 n
  have hn' := cast_lt hn
  have h2 : q ^ n ≤ 1 / (1 - q) / (n : Rat) := by
    refine le_div hn' (le_div h0 ?_)
    have := pow_nn hq n
    grind
  have h3 := mul_mono hc Rat.le_refl (pow_nn hq n) h2
  rw [show c / (1 - q) / (n : Rat) = c * (1 / (1 - q) / (n : Rat)) by grind]
  grind
theorem pow_up {z w : Rat} (hz : 0 ≤ z) (hw : z ≤ w) : ∀ k : Nat, w ^ (k + 1) - z ^ (k + 1) ≤ ((k + 1 : Nat) : Rat) * w ^ k * (w - z)
  | 0 => by rw [Rat.pow_succ, Rat.pow_succ, Rat.pow_zero, Rat.pow_zero, show ((0 + 1 : Nat) : Rat) = 1 from rfl]; grind
  | k + 1 => by
    have hw0 : 0 ≤ w := Rat.le_trans hz hw
    have ih := mul_nn hw0 (show 0 ≤ ((k + 1 : Nat) : Rat) * w ^ k * (w - z) - (w ^ (k + 1) - z ^ (k + 1)) by have := pow_up hz hw k; grind)
    have h2 := mul_nn (show 0 ≤ w ^ (k + 1) - z ^ (k + 1) by have := pow_mono hz hw (k + 1); grind) (show 0 ≤ w - z by grind)
    have e : ((k + 1 + 1 : Nat) : Rat) = ((k + 1 : Nat) : Rat) + 1 := by grind
    rw [e, Rat.pow_succ w (k + 1), Rat.pow_succ z (k + 1)]
    rw [Rat.pow_succ w k] at ih h2 ⊢
    grind
theorem pow_dn {z w : Rat} (hz : 0 ≤ z) (hw : z ≤ w) : ∀ k : Nat, ((k + 1 : Nat) : Rat) * z ^ k * (w - z) ≤ w ^ (k + 1) - z ^ (k + 1)
  | 0 => by rw [Rat.pow_succ, Rat.pow_succ, Rat.pow_zero, Rat.pow_zero, show ((0 + 1 : Nat) : Rat) = 1 from rfl]; grind
  | k + 1 => by
    have hw0 : 0 ≤ w := Rat.le_trans hz hw
    have ih := mul_nn hz (show 0 ≤ (w ^ (k + 1) - z ^ (k + 1)) - ((k + 1 : Nat) : Rat) * z ^ k * (w - z) by have := pow_dn hz hw k; grind)
    have h2 := mul_nn (show 0 ≤ w ^ (k + 1) - z ^ (k + 1) by have := pow_mono hz hw (k + 1); grind) (show 0 ≤ w - z by grind)
    have e : ((k + 1 + 1 : Nat) : Rat) = ((k + 1 : Nat) : Rat) + 1 := by grind
    rw [e, Rat.pow_succ w (k + 1), Rat.pow_succ z (k + 1)]
    rw [Rat.pow_succ z k] at ih h2 ⊢
    grind
/-- the geometric sum of squares -/
def geo (z : Rat) (n : Nat) : Rat := su (fun i => z ^ (2 * i)) n
theorem geo_eq (z : Rat) : ∀ n, (1 - z * z) * geo z n = 1 - z ^ (2 * n)
  | 0 => by unfold geo su; rw [Rat.mul_zero, Nat.mul_zero, Rat.pow_zero]; grind
  | n + 1 => by
    have ih := geo_eq z n
    rw [geo, su, ← geo, show 2 * (n + 1) = 2 * n + 1 + 1 by omega, Rat.pow_succ, Rat.pow_succ]
    grind
theorem odd_pos (i : Nat) : (0 : Rat) < ((2 * i + 1 : Nat) : Rat) := cast_pos _
/-- twice the area tangent's series -/
def ln (z : Rat) (n : Nat) : Rat := su (fun i => 2 * (z ^ (2 * i + 1) / ((2 * i + 1 : Nat) : Rat))) n
theorem ln_mono {z : Rat} (hz : 0 ≤ z) {m n : Nat} (h : m ≤ n) : ln z m ≤ ln z n :=
  su_mono (fun k => mul_nn (by grind) (div_nn (pow_nn hz _) (odd_pos k))) h
theorem ln_nn {z : Rat} (hz : 0 ≤ z) (n : Nat) : 0 ≤ ln z n :=
  su_nn fun k _ => mul_nn (by grind) (div_nn (pow_nn hz _) (odd_pos k))
theorem ln_zero (n : Nat) : ln 0 n = 0 := by
  unfold ln
  rw [su_congr (g := fun _ => 0 * 0) fun k _ => by rw [Rat.pow_succ]; grind, su_mul, Rat.zero_mul]
theorem ln_diff (z w : Rat) (n : Nat) : ln w n - ln z n = su (fun i => 2 * ((w ^ (2 * i + 1) - z ^ (2 * i + 1)) / ((2 * i + 1 : Nat) : Rat))) n := by
  unfold ln
  rw [show ∀ a b : Rat, a - b = a + -b from fun a b => by grind, ← su_neg, ← su_add]
  exact su_congr fun k _ => by grind
theorem ln_up {z w : Rat} (hz : 0 ≤ z) (hw : z ≤ w) (n : Nat) : ln w n - ln z n ≤ 2 * (w - z) * geo w n := by
  rw [ln_diff, geo, ← su_mul]
  refine su_le fun k _ => ?_
  have h1 := div_le (a := w ^ (2 * k) * (w - z)) (odd_pos k) (b := w ^ (2 * k + 1) - z ^ (2 * k + 1)) (by have := pow_up hz hw (2 * k); grind)
  grind
theorem ln_dn {z w : Rat} (hz : 0 ≤ z) (hw : z ≤ w) (n : Nat) : 2 * (w - z) * geo z n ≤ ln w n - ln z n := by
  rw [ln_diff, geo, ← su_mul]
  refine su_le fun k _ => ?_
  have h1 := le_div (a := z ^ (2 * k) * (w - z)) (odd_pos k) (b := w ^ (2 * k + 1) - z ^ (2 * k + 1)) (by have := pow_dn hz hw (2 * k); grind)
  grind
def zt (t : Rat) : Rat := (t - 1) / (t + 1)
theorem zt_nn {t : Rat} (h : 1 ≤ t) : 0 ≤ zt t := div_nn (by grind) (by grind)
theorem zt_lt {t : Rat} (h : 1 ≤ t) : zt t < 1 := by
  have h1 : 0 < t + 1 := by grind
  have h2 : zt t * (t + 1) = t - 1 := by unfold zt; grind
  by_cases e : zt t < 1
  · exact e
  · have := mul_nn (show 0 ≤ zt t - 1 by grind) (Rat.le_of_lt h1)
    rw [show (zt t - 1) * (t + 1) = zt t * (t + 1) - (t + 1) by grind] at this
    grind
theorem zt_mono {t u : Rat} (h : 1 ≤ t) (hu : t ≤ u) : zt t ≤ zt u := by
  have h1 : 0 < t + 1 := by grind
  have h2 : 0 < u + 1 := by grind
  refine div_le h1 ?_
  rw [show (zt u) * (t + 1) = (u - 1) * (t + 1) / (u + 1) by unfold zt; grind]
  exact le_div h2 (by grind)
/-- the logarithm's series -/
def lg (t : Rat) (n : Nat) : Rat := ln (zt t) n
theorem lg_mono {t : Rat} (h : 1 ≤ t) {m n : Nat} (hm : m ≤ n) : lg t m ≤ lg t n := ln_mono (zt_nn h) hm
theorem lg_nn {t : Rat} (h : 1 ≤ t) (n : Nat) : 0 ≤ lg t n := ln_nn (zt_nn h) n
theorem lg_one (n : Nat) : lg 1 n = 0 := by
  unfold lg
  rw [show zt 1 = 0 by unfold zt; grind]; exact ln_zero n
theorem sq_lt {z : Rat} (h : 0 ≤ z) (h1 : z < 1) : z * z < 1 := by
  have := mul_nn h (show 0 ≤ 1 - z by grind)
  grind
theorem geo_nn {z : Rat} (h : 0 ≤ z) (n : Nat) : 0 ≤ geo z n := su_nn fun k _ => pow_nn h _
theorem geo_le {z : Rat} (h : 0 ≤ z) (h1 : z < 1) (n : Nat) : geo z n ≤ 1 / (1 - z * z) := by
  have := sq_lt h h1
  refine le_div (by grind) ?_
  rw [Rat.mul_comm, geo_eq]
  have := pow_nn h (2 * n); grind
theorem lg_up {t u : Rat} (h : 1 ≤ t) (hu : t ≤ u) (n : Nat) : lg u n - lg t n ≤ (u - t) / t := by
  have hz := zt_nn h
  have hm := zt_mono h hu
  have hl := zt_lt (t := u) (by grind)
  have h1 := ln_up hz hm n
  have h2 := geo_le (z := zt u) (by grind) hl n
  have h3 := mul_mono (show 0 ≤ 2 * (zt u - zt t) by grind) Rat.le_refl (geo_nn (z := zt u) (by grind) n) h2
  refine Rat.le_trans h1 (Rat.le_trans h3 (le_div (by grind) ?_))
  have e1 : 1 - zt u * zt u = 4 * u / ((u + 1) * (u + 1)) := by unfold zt; grind
  have e2 : 2 * (zt u - zt t) = 4 * (u - t) / ((u + 1) * (t + 1)) := by unfold zt; grind
  have e3 : 2 * (zt u - zt t) * (1 / (1 - zt u * zt u)) * t = (u - t) * ((u + 1) * t) / (u * (t + 1)) := by
    rw [e1, e2]
    have a1 : u ≠ 0 := by grind
    have a2 : u + 1 ≠ 0 := by grind
    have a3 : t + 1 ≠ 0 := by grind
    clear e1 e2 h1 h2 h3 hz hm hl
    simp only [Rat.div_def, Rat.inv_mul_rev, Rat.inv_inv]
    grind
  rw [e3]
  refine div_le (pos_mul (by grind) (by grind)) ?_
  have := mul_nn (show 0 ≤ u - t by grind) (show 0 ≤ u * (t + 1) - (u + 1) * t by grind)
  grind
theorem lg_dn {t u : Rat} (h : 1 ≤ t) (hu : t ≤ u) {Z : Rat} (hZ : zt t ≤ Z) (n : Nat) : (u - t) / u * (1 - Z ^ (2 * n)) ≤ lg u n - lg t n := by
  have hz := zt_nn h
  have hm := zt_mono h hu
  have h1 := ln_dn hz hm n
  refine Rat.le_trans ?_ h1
  have hl := sq_lt hz (zt_lt h)
  have hg : 1 - zt t ^ (2 * n) = (1 - zt t * zt t) * geo (zt t) n := (geo_eq _ _).symm
  have h2 : 1 - Z ^ (2 * n) ≤ (1 - zt t * zt t) * geo (zt t) n := by
    rw [← hg]
    have := pow_mono hz hZ (2 * n); grind
  have h3 := mul_nn (div_nn (show 0 ≤ u - t by grind) (show 0 < u by grind)) (show 0 ≤ (1 - zt t * zt t) * geo (zt t) n - (1 - Z ^ (2 * n)) by grind)
  refine Rat.le_trans (show _ ≤ (u - t) / u * (1 - zt t * zt t) * geo (zt t) n by grind) ?_
  have h4 : (u - t) / u * (1 - zt t * zt t) ≤ 2 * (zt u - zt t) := by
    have e1 : 1 - zt t * zt t = 4 * t / ((t + 1) * (t + 1)) := by unfold zt; grind
    have e2 : 2 * (zt u - zt t) = 4 * (u - t) / ((u + 1) * (t + 1)) := by unfold zt; grind
    rw [e1, e2]
    refine le_div (pos_mul (by grind) (by grind)) ?_
    rw [show (u - t) / u * (4 * t / ((t + 1) * (t + 1))) * ((u + 1) * (t + 1)) = 4 * (u - t) * (t * (u + 1)) / (u * (t + 1)) by
      have a1 : u ≠ 0 := by grind
      have a2 : u + 1 ≠ 0 := by grind
      have a3 : t + 1 ≠ 0 := by grind
      clear e1 e2 h1 h2 h3 hg hz hm hl
      simp only [Rat.div_def, Rat.inv_mul_rev, Rat.inv_inv]
      grind]
    refine div_le (pos_mul (by grind) (by grind)) ?_
    have := mul_nn (show 0 ≤ u - t by grind) (show 0 ≤ u * (t + 1) - (u + 1) * t by grind)
    grind
  have := mul_mono (mul_nn (div_nn (show 0 ≤ u - t by grind) (show 0 < u by grind)) (show 0 ≤ 1 - zt t * zt t by grind)) h4 (geo_nn hz n) Rat.le_refl
  exact this
/-- the places of a division into parts of one length, the sums over them -/
def upS (h : Rat) (n : Nat) : Rat := su (fun i => h / (1 + (i : Rat) * h)) n
def dnS (h : Rat) (n : Nat) : Rat := su (fun i => h / (1 + ((i + 1 : Nat) : Rat) * h)) n
theorem place {h : Rat} (hh : 0 ≤ h) (i : Nat) : 1 ≤ 1 + (i : Rat) * h := by
  have := mul_nn (cast_nn i) hh; grind
theorem dnS_nn {h : Rat} (hh : 0 ≤ h) (n : Nat) : 0 ≤ dnS h n := su_nn fun k _ => div_nn hh (by have := place hh (k + 1); grind)
theorem up_dn {h : Rat} (hh : 0 ≤ h) (n : Nat) : upS h n ≤ dnS h n + (n : Rat) * (h * h) := by
  have e : (n : Rat) * (h * h) = su (fun _ => h * h) n := by
    induction n with
    | zero => unfold su; grind
    | succ n ih => rw [su, ← ih]; grind
  rw [e, dnS, ← su_add]
  refine su_le fun k _ => ?_
  have h1 := place hh k
  have h2 := place hh (k + 1)
  have e1 : h / (1 + (k : Rat) * h) = h / (1 + ((k + 1 : Nat) : Rat) * h) + h * h / ((1 + (k : Rat) * h) * (1 + ((k + 1 : Nat) : Rat) * h)) := by grind
  rw [e1]
  have h3 : h * h / ((1 + (k : Rat) * h) * (1 + ((k + 1 : Nat) : Rat) * h)) ≤ h * h := by
    refine div_le (pos_mul (by grind) (by grind)) ?_
    have h4 := mul_mono (show (0 : Rat) ≤ 1 by grind) h1 (show (0 : Rat) ≤ 1 by grind) h2
    have h5 := mul_mono (mul_nn hh hh) Rat.le_refl (show (0 : Rat) ≤ 1 * 1 by grind) h4
    grind
  grind
theorem lg_upS {s h : Rat} (hs : 1 ≤ s) (hh : 0 ≤ h) (k : Nat) : ∀ n : Nat, lg (s * (1 + (n : Rat) * h)) k - lg s k ≤ upS h n
  | 0 => by unfold upS su; rw [show s * (1 + ((0 : Nat) : Rat) * h) = s by grind]; grind
  | n + 1 => by
    have ih := lg_upS hs hh k n
    have h1 := place hh n
    have h2 := mul_nn (show 0 ≤ s by grind) (show 0 ≤ 1 + (n : Rat) * h - 1 by grind)
    have h3 := mul_nn (show 0 ≤ s by grind) hh
    have := lg_up (t := s * (1 + (n : Rat) * h)) (u := s * (1 + ((n + 1 : Nat) : Rat) * h)) (by grind) (by grind) k
    have e : (s * (1 + ((n + 1 : Nat) : Rat) * h) - s * (1 + (n : Rat) * h)) / (s * (1 + (n : Rat) * h)) = h / (1 + (n : Rat) * h) := by grind
    rw [e] at this
    rw [upS, su, ← upS]; grind
theorem lg_dnS {s h Z : Rat} (hs : 1 ≤ s) (hh : 0 ≤ h) (k : Nat) {n : Nat} (hZ : zt (s * (1 + (n : Rat) * h)) ≤ Z) (hZ1 : Z ≤ 1) : ∀ j : Nat, j ≤ n → dnS h j * (1 - Z ^ (2 * k)) ≤ lg (s * (1 + (j : Rat) * h)) k - lg s k
  | 0, _ => by unfold dnS su; rw [show s * (1 + ((0 : Nat) : Rat) * h) = s by grind]; grind
  | j + 1, hj => by
    have ih := lg_dnS hs hh k hZ hZ1 j (by omega)
    have h1 := place hh j
    have h2 := mul_nn (show 0 ≤ s by grind) (show 0 ≤ 1 + (j : Rat) * h - 1 by grind)
    have h3 := mul_nn (show 0 ≤ s by grind) hh
    have hjn : (j : Rat) ≤ (n : Rat) := Rat.natCast_le_natCast.2 (by omega)
    have h4 := mul_nn h3 (show 0 ≤ (n : Rat) - (j : Rat) by grind)
    have h5 := zt_mono (t := s * (1 + (j : Rat) * h)) (u := s * (1 + (n : Rat) * h)) (by grind) (by grind)
    have := lg_dn (t := s * (1 + (j : Rat) * h)) (u := s * (1 + ((j + 1 : Nat) : Rat) * h)) (by grind) (by grind) (Rat.le_trans h5 hZ) k
    have e : (s * (1 + ((j + 1 : Nat) : Rat) * h) - s * (1 + (j : Rat) * h)) / (s * (1 + ((j + 1 : Nat) : Rat) * h)) = h / (1 + ((j + 1 : Nat) : Rat) * h) := by
      have := place hh (j + 1)
      grind
    rw [e] at this
    rw [dnS, su, ← dnS]; grind
/-- the area under 1/t, shut in, whatever the scale -/
theorem area {T : Rat} (hT : 1 ≤ T) {N : Nat} (hN : 0 < N) : ∃ L U : Rat, 0 ≤ L ∧ U ≤ L + (T - 1) * (T - 1) / (N : Rat) ∧ ∀ s, 1 ≤ s → ∀ n, lg (s * T) n - lg s n ≤ U ∧ L * (1 - zt (s * T) ^ (2 * n)) ≤ lg (s * T) n - lg s n := by
  have hN' := cast_lt hN
  have hh : 0 ≤ (T - 1) / (N : Rat) := div_nn (by grind) hN'
  have e : 1 + (N : Rat) * ((T - 1) / (N : Rat)) = T := by grind
  refine ⟨dnS ((T - 1) / (N : Rat)) N, upS ((T - 1) / (N : Rat)) N, dnS_nn hh N, ?_, fun s hs n => ⟨?_, ?_⟩⟩
  · have := up_dn hh N
    rw [show (N : Rat) * ((T - 1) / (N : Rat) * ((T - 1) / (N : Rat))) = (T - 1) * (T - 1) / (N : Rat) by grind] at this
    exact this
  · have := lg_upS hs hh n N
    rw [e] at this; exact this
  · have h1 := mul_nn (show 0 ≤ s by grind) (show 0 ≤ T - 1 by grind)
    have := lg_dnS (Z := zt (s * T)) hs hh n (n := N) (by rw [e]; exact Rat.le_refl) (Rat.le_of_lt (zt_lt (by grind))) N (Nat.le_refl _)
    rw [e] at this; exact this
theorem pow_two (z : Rat) : ∀ n : Nat, z ^ (2 * n) = (z * z) ^ n
  | 0 => by rw [Nat.mul_zero, Rat.pow_zero, Rat.pow_zero]
  | n + 1 => by
    rw [show 2 * (n + 1) = 2 * n + 1 + 1 by omega, Rat.pow_succ, Rat.pow_succ, Rat.pow_succ, pow_two z n]; grind
theorem le_of_even {L b z : Rat} (hz : 0 ≤ z) (h1 : z < 1) (hL : 0 ≤ L) {k : Nat} (h : ∀ n, k ≤ n → L * (1 - z ^ (2 * n)) ≤ b) : L ≤ b := by
  refine le_of_pow (mul_nn hz hz) (sq_lt hz h1) hL fun n => ?_
  have h2 := h (n + k) (by omega)
  rw [pow_two] at h2
  have h3 : (z * z) ^ (n + k) ≤ (z * z) ^ n := by
    have := mul_mono (pow_nn (mul_nn hz hz) n) Rat.le_refl (pow_nn (mul_nn hz hz) k) (pow_le_one (mul_nn hz hz) (Rat.le_of_lt (sq_lt hz h1)) k)
    rw [show (z * z) ^ (n + k) = (z * z) ^ n * (z * z) ^ k by grind]; grind
  have h4 := mul_mono hL Rat.le_refl (pow_nn (mul_nn hz hz) (n + k)) h3
  grind
/-- logarithms of products -/
theorem Ub.lgm {s t b d : Rat} (hs : 1 ≤ s) (ht : 1 ≤ t) (h1 : Ub (lg s) b) (h2 : Ub (lg t) d) : Ub (lg (s * t)) (b + d) := fun n => by
  refine le_of_parts (c := (t - 1) * (t - 1)) fun N hN => ?_
  obtain ⟨L, U, hL, hU, hA⟩ := area ht hN
  have h3 := (hA s hs n).1
  have h4 := h1 n
  have h5 : L ≤ d := le_of_even (zt_nn ht) (zt_lt ht) hL (k := 0) fun m _ => by
    have := (hA 1 (by grind) m).2
    rw [Rat.one_mul, lg_one] at this
    have := h2 m
    grind
  grind
theorem Ub.lg_add {s t b : Rat} (hs : 1 ≤ s) (ht : 1 ≤ t) (h1 : Ub (lg (s * t)) b) (n m : Nat) : lg s n + lg t m ≤ b := by
  refine le_of_parts (c := (t - 1) * (t - 1)) fun N hN => ?_
  obtain ⟨L, U, hL, hU, hA⟩ := area ht hN
  have h3 := (hA 1 (by grind) m).1
  rw [Rat.one_mul, lg_one] at h3
  have hst : 1 ≤ s * t := by
    have := mul_nn (show 0 ≤ s by grind) (show 0 ≤ t - 1 by grind)
    grind
  have h5 : L ≤ b - lg s n := le_of_even (zt_nn hst) (zt_lt hst) hL (k := n) fun k hk => by
    have h6 := (hA s hs k).2
    have h7 := h1 k
    have h8 := lg_mono hs hk
    grind
  grind
/-- a bound as near as wanted -/
theorem lg_near {t : Rat} (ht : 1 ≤ t) (n : Nat) : Ub (lg t) (lg t n + 2 / (1 - zt t * zt t) * zt t ^ (2 * n)) := fun m => by
  have hz := zt_nn ht
  have hl := sq_lt hz (zt_lt ht)
  have h0 : 0 ≤ 2 / (1 - zt t * zt t) * zt t ^ (2 * n) := mul_nn (div_nn (by grind) (by grind)) (pow_nn hz _)
  rcases Nat.le_total m n with h | h
  · have := lg_mono ht h; grind
  obtain ⟨k, rfl⟩ := Nat.le.dest h
  have key : ∀ k, lg t (n + k) - lg t n ≤ 2 / (1 - zt t * zt t) * (zt t ^ (2 * n) - zt t ^ (2 * (n + k))) := by
    intro k
    induction k with
    | zero => rw [Nat.add_zero]; grind
    | succ k ih =>
      have e : lg t (n + (k + 1)) = lg t (n + k) + 2 * (zt t ^ (2 * (n + k) + 1) / ((2 * (n + k) + 1 : Nat) : Rat)) := rfl
      have h1 : zt t ^ (2 * (n + k) + 1) / ((2 * (n + k) + 1 : Nat) : Rat) ≤ zt t ^ (2 * (n + k)) := by
        refine div_le (odd_pos _) ?_
        rw [Rat.pow_succ]
        have o : (1 : Rat) ≤ ((2 * (n + k) + 1 : Nat) : Rat) := Rat.natCast_le_natCast.2 (show 1 ≤ _ by omega)
        have h2 := mul_mono (pow_nn hz (2 * (n + k))) Rat.le_refl hz (Rat.le_trans (Rat.le_of_lt (zt_lt ht)) o)
        exact h2
      have e2 : 2 / (1 - zt t * zt t) * (zt t ^ (2 * (n + k)) - zt t ^ (2 * (n + (k + 1)))) = 2 * zt t ^ (2 * (n + k)) := by
        rw [show 2 * (n + (k + 1)) = 2 * (n + k) + 1 + 1 by omega, Rat.pow_succ, Rat.pow_succ]; grind
      have e3 : 2 / (1 - zt t * zt t) * (zt t ^ (2 * n) - zt t ^ (2 * (n + (k + 1)))) = 2 / (1 - zt t * zt t) * (zt t ^ (2 * n) - zt t ^ (2 * (n + k))) + 2 / (1 - zt t * zt t) * (zt t ^ (2 * (n + k)) - zt t ^ (2 * (n + (k + 1)))) := by grind
      rw [e3, e2, e]; grind
  have h1 := key k
  have h2 := mul_nn (div_nn (show (0 : Rat) ≤ 2 by grind) (show 0 < 1 - zt t * zt t by grind)) (pow_nn hz (2 * (n + k)))
  grind
end Go.An
/- The program's series for the logarithm bounds it: plain mathematics. -/
namespace Go.An
theorem Lb.lgm {s t a c : Rat} (hs : 1 ≤ s) (ht : 1 ≤ t) (h1 : Lb (lg s) a) (h2 : Lb (lg t) c) : Lb (lg (s * t)) (a + c) := fun B hB => by
  have h3 := h2 (B - a) fun m => by
    have := h1 (B - lg t m) fun n => by have := hB.lg_add hs ht n m; grind
    grind
  grind
/-- bounds of a logarithm -/
def LogB (x a b : Rat) : Prop := ∀ s t, 1 ≤ s → 1 ≤ t → x * t = s → (∀ B, Ub (lg s) B → ∀ n, a + lg t n ≤ B) ∧ ∀ B, Ub (lg t) B → ∀ n, lg s n ≤ b + B
theorem LogB.mono {x a b a' b' : Rat} (h : LogB x a b) (ha : a' ≤ a) (hb : b ≤ b') : LogB x a' b' := fun s t hs ht e => by
  obtain ⟨h1, h2⟩ := h s t hs ht e
  exact ⟨fun B hB n => by have := h1 B hB n; grind, fun B hB n => by have := h2 B hB n; grind⟩
theorem LogB.quot {u v a b c d : Rat} (hu : 1 ≤ u) (hv : 1 ≤ v) (h1 : Lb (lg u) a) (h2 : Ub (lg u) b) (h3 : Lb (lg v) c) (h4 : Ub (lg v) d) : LogB (u / v) (a - d) (b - c) := fun s t hs ht e => by
  have e2 : s * v = u * t := by rw [← e]; grind
  refine ⟨fun B hB n => ?_, fun B hB n => ?_⟩
  · have h5 := Ub.lgm hs hv hB h4
    rw [e2] at h5
    have := h1 (B + d - lg t n) fun m => by have := h5.lg_add hu ht m n; grind
    grind
  · have h5 := Ub.lgm hu ht h2 hB
    rw [← e2] at h5
    have := h3 (b + B - lg s n) fun m => by have := h5.lg_add hs hv n m; grind
    grind
theorem LogB.inv {y c d : Rat} (hy : 0 < y) (h : LogB y c d) : LogB (1 / y) (-d) (-c) := fun s t hs ht e => by
  obtain ⟨h1, h2⟩ := h t s ht hs (by rw [← e]; grind)
  exact ⟨fun B hB n => by have := h2 B hB n; grind, fun B hB n => by have := h1 B hB n; grind⟩
theorem split_one {x : Rat} (hx : 0 < x) : ∃ s t, 1 ≤ s ∧ 1 ≤ t ∧ x * t = s := by
  by_cases h : 1 ≤ x
  · exact ⟨x, 1, h, Rat.le_refl, by grind⟩
  · exact ⟨1, 1 / x, Rat.le_refl, le_div hx (by grind), by grind⟩
theorem log_le {x y a b c d e f : Rat} (hx : 0 < x) (hy : 0 < y) (h1 : LogB x a b) (h2 : LogB y c d) (h3 : LogB (x / y) e f) : a - d ≤ f := by
  obtain ⟨s, t, hs, ht, e1⟩ := split_one hx
  obtain ⟨s', t', hs', ht', e2⟩ := split_one hy
  have mge : ∀ {p q : Rat}, 1 ≤ p → 1 ≤ q → 1 ≤ p * q := fun {p q} hp hq => by
    have := mul_nn (show 0 ≤ p by grind) (show 0 ≤ q - 1 by grind)
    grind
  obtain ⟨-, q3⟩ := h3 (s * t') (t * s') (mge hs ht') (mge ht hs') (by rw [← e1, ← e2]; grind)
  obtain ⟨q1, -⟩ := h1 s t hs ht e1
  obtain ⟨-, q2⟩ := h2 s' t' hs' ht' e2
  have key : ∀ Bt Bt', Ub (lg t) Bt → Ub (lg t') Bt' → ∀ k m, a + lg t k + lg t' m ≤ f + Bt + d + Bt' := fun Bt Bt' g1 g2 k m => by
    have g3 : Ub (lg s') (d + Bt') := fun n => q2 Bt' g2 n
    have g4 := Ub.lgm ht hs' g1 g3
    have g5 : Ub (lg (s * t')) (f + (Bt + (d + Bt'))) := fun n => q3 _ g4 n
    have := q1 (f + (Bt + (d + Bt')) - lg t' m) (fun n => by have := g5.lg_add hs ht' n m; grind) k
    grind
  have z1 := zt_nn ht; have z2 := zt_nn ht'
  have l1 := sq_lt z1 (zt_lt ht); have l2 := sq_lt z2 (zt_lt ht')
  have : a ≤ f + d := by
    refine le_of_pow (mul_nn z1 z1) l1 (c := 2 / (1 - zt t * zt t)) (div_nn (by grind) (by grind)) fun k => ?_
    refine le_of_pow (mul_nn z2 z2) l2 (c := 2 / (1 - zt t' * zt t')) (div_nn (by grind) (by grind)) fun m => ?_
    have := key _ _ (lg_near ht k) (lg_near ht' m) k m
    rw [pow_two, pow_two] at this
    grind
  grind
/-- logarithms of quotients -/
theorem log_quot {x y a b c d e f : Rat} (hx : 0 < x) (hy : 0 < y) (h1 : LogB x a b) (h2 : LogB y c d) (h3 : LogB (x / y) e f) : a - d ≤ f ∧ e ≤ b - c := by
  refine ⟨log_le hx hy h1 h2 h3, ?_⟩
  have hq : 0 < x / y := by rw [Rat.div_def]; exact pos_mul hx (Rat.inv_pos.2 hy)
  have := log_le hq hx h3 h1 (e := -d) (f := -c) (by
    rw [show x / y / x = 1 / y by grind]; exact h2.inv hy)
  grind
/-- the series by nested sums -/
def lt (s : Rat) : Nat → Nat → Rat
  | _, 0 => 0
  | i, n + 1 => 1 / ((2 * i + 1 : Nat) : Rat) + s * lt s (i + 1) n
theorem lt_su (s : Rat) : ∀ n k : Nat, su (fun i => s ^ i / ((2 * (k + i) + 1 : Nat) : Rat)) n = lt s k n
  | 0, _ => rfl
  | n + 1, k => by
    rw [su_head, lt, ← lt_su s n (k + 1), ← su_mul, Rat.pow_zero]
    congr 1
    exact su_congr fun i _ => by rw [show k + (i + 1) = k + 1 + i by omega, Rat.pow_succ]; grind
theorem ln_lt (z : Rat) (n : Nat) : ln z n = 2 * z * lt (z * z) 0 n := by
  rw [← lt_su, ← su_mul, ln]
  exact su_congr fun i _ => by rw [Nat.zero_add, Rat.pow_succ, pow_two]; grind
theorem lt_nn {s : Rat} (hs : 0 ≤ s) : ∀ n i : Nat, 0 ≤ lt s i n
  | 0, _ => by rw [lt]; exact Rat.le_refl
  | n + 1, i => by
    have := mul_nn hs (lt_nn hs n (i + 1))
    have h2 := div_nn (show (0 : Rat) ≤ 1 by grind) (odd_pos i)
    rw [lt]; grind
theorem lt_hundred {s : Rat} (hs : 0 ≤ s) (h1 : s ≤ 1 / 9) : ∀ n i : Nat, 56 ≤ i → lt s i n ≤ 1 / 100
  | 0, _, _ => by rw [lt]; grind
  | n + 1, i, hi => by
    have h2 := mul_mono hs h1 (lt_nn hs n (i + 1)) (lt_hundred hs h1 n (i + 1) (by omega))
    have h3 : 1 / ((2 * i + 1 : Nat) : Rat) ≤ 1 / 113 := div_le (odd_pos i) (by
      have : ((113 : Nat) : Rat) ≤ ((2 * i + 1 : Nat) : Rat) := Rat.natCast_le_natCast.2 (by omega)
      grind)
    rw [lt]; grind
def logLo (sl w : Nat) : Nat → Nat
  | 0 => 2 ^ w / 111
  | k + 1 => (2 ^ (2 * w) + sl * logLo sl w k * (2 * (54 - k) + 1)) / ((2 * (54 - k) + 1) * 2 ^ w)
def logHi (sh w : Nat) : Nat → Nat
  | 0 => cd (2 ^ w * 100 + sh * 111) 11100
  | k + 1 => cd (2 ^ (2 * w) + sh * logHi sh w k * (2 * (54 - k) + 1)) ((2 * (54 - k) + 1) * 2 ^ w)
theorem sq_w (w : Nat) : ((2 ^ (2 * w) : Nat) : Rat) = ((2 ^ w : Nat) : Rat) * ((2 ^ w : Nat) : Rat) := by
  rw [show 2 * w = w + w by omega, Nat.pow_add, Rat.natCast_mul]
theorem logLo_le {U s : Rat} {sl w : Nat} (hU : U = ((2 ^ w : Nat) : Rat)) (hs : (sl : Rat) ≤ U * s) : ∀ k, k ≤ 55 → (logLo sl w k : Rat) ≤ U * lt s (55 - k) (k + 1)
  | 0, _ => by
    rw [logLo, lt, lt, hU, Rat.mul_zero, Rat.add_zero]
    have := q_le (Nat.div_mul_le_self (2 ^ w) 111)
    have := le_div (show (0 : Rat) < 111 by grind) this
    rw [show ((2 * (55 - 0) + 1 : Nat) : Rat) = 111 from rfl]
    grind
  | k + 1, h => by
    have h0 : 0 < U := by rw [hU]; exact two_pos w
    have ih := logLo_le hU hs k (by omega)
    obtain ⟨i, hi⟩ : ∃ i, i = 54 - k := ⟨_, rfl⟩
    rw [show 55 - k = i + 1 by omega] at ih
    rw [logLo, lt, show 55 - (k + 1) = i by omega, ← hi]
    obtain ⟨H, hH⟩ : ∃ H, H = lt s (i + 1) (k + 1) := ⟨_, rfl⟩
    obtain ⟨low, hl⟩ : ∃ l, l = logLo sl w k := ⟨_, rfl⟩
    rw [← hH, ← hl] at ih; rw [← hH, ← hl]
    have ho := odd_pos i
    obtain ⟨q, hq⟩ : ∃ q, q = (2 ^ (2 * w) + sl * low * (2 * i + 1)) / ((2 * i + 1) * 2 ^ w) := ⟨_, rfl⟩
    have h1 : q * ((2 * i + 1) * 2 ^ w) ≤ 2 ^ (2 * w) + sl * low * (2 * i + 1) := by rw [hq]; exact Nat.div_mul_le_self _ _
    have h2 : ((q * ((2 * i + 1) * 2 ^ w) : Nat) : Rat) ≤ ((2 ^ (2 * w) + sl * low * (2 * i + 1) : Nat) : Rat) := Rat.natCast_le_natCast.2 h1
    obtain ⟨o, ho'⟩ : ∃ o, o = ((2 * i + 1 : Nat) : Rat) := ⟨_, rfl⟩
    rw [Rat.natCast_mul q, Rat.natCast_mul (2 * i + 1), Rat.natCast_add (2 ^ (2 * w)), Rat.natCast_mul (sl * low), Rat.natCast_mul sl, sq_w, ← hU, ← ho'] at h2
    rw [← hq, ← ho']
    rw [← ho'] at ho
    have h3 := mul_mono (cast_nn sl) hs (cast_nn low) ih
    have h4 := mul_mono (mul_nn (cast_nn sl) (cast_nn low)) h3 (Rat.le_of_lt ho) Rat.le_refl
    refine le_cancel (pos_mul ho h0) (Rat.le_trans h2 ?_)
    rw [show U * (1 / o + s * H) * (o * U) = U * U + U * s * (U * H) * o by grind]
    grind
theorem le_logHi {U s : Rat} {sh w : Nat} (hU : U = ((2 ^ w : Nat) : Rat)) (hs0 : 0 ≤ s) (hs9 : s ≤ 1 / 9) (hs : U * s ≤ (sh : Rat)) : ∀ k, k ≤ 55 → ∀ n, U * lt s (55 - k) n ≤ (logHi sh w k : Rat)
  | k, _, 0 => by rw [lt, Rat.mul_zero]; exact cast_nn _
  | 0, _, n + 1 => by
    have h0 : 0 < U := by rw [hU]; exact two_pos w
    rw [logHi, lt]
    have h1 := q_ge (cd_ge (a := 2 ^ w * 100 + sh * 111) (d := 11100) (by omega))
    rw [Rat.natCast_add, Rat.natCast_mul, Rat.natCast_mul, ← hU] at h1
    rw [show ((2 * (55 - 0) + 1 : Nat) : Rat) = 111 from rfl]
    have h2 := lt_hundred hs0 hs9 n (55 - 0 + 1) (by omega)
    have h3 := mul_mono (mul_nn (Rat.le_of_lt h0) hs0) hs (lt_nn hs0 n _) h2
    have e1 : ((11100 : Nat) : Rat) = 11100 := rfl
    have e2 : ((100 : Nat) : Rat) = 100 := rfl
    have e3 : ((111 : Nat) : Rat) = 111 := rfl
    rw [e1, e2, e3] at h1
    grind
  | k + 1, h, n + 1 => by
    have h0 : 0 < U := by rw [hU]; exact two_pos w
    have ih := le_logHi hU hs0 hs9 hs k (by omega) n
    obtain ⟨i, hi⟩ : ∃ i, i = 54 - k := ⟨_, rfl⟩
    rw [show 55 - k = i + 1 by omega] at ih
    rw [logHi, lt, show 55 - (k + 1) = i by omega, ← hi]
    have hH0 := lt_nn hs0 n (i + 1)
    obtain ⟨H, hH⟩ : ∃ H, H = lt s (i + 1) n := ⟨_, rfl⟩
    obtain ⟨high, hl⟩ : ∃ l, l = logHi sh w k := ⟨_, rfl⟩
    rw [← hH, ← hl] at ih; rw [← hH, ← hl]; rw [← hH] at hH0
    have ho := odd_pos i
    obtain ⟨q, hq⟩ : ∃ q, q = cd (2 ^ (2 * w) + sh * high * (2 * i + 1)) ((2 * i + 1) * 2 ^ w) := ⟨_, rfl⟩
    have h1 : 2 ^ (2 * w) + sh * high * (2 * i + 1) ≤ q * ((2 * i + 1) * 2 ^ w) := by
      rw [hq]; exact cd_ge (Nat.mul_pos (by omega) (Nat.two_pow_pos w))
    have h2 : ((2 ^ (2 * w) + sh * high * (2 * i + 1) : Nat) : Rat) ≤ ((q * ((2 * i + 1) * 2 ^ w) : Nat) : Rat) := Rat.natCast_le_natCast.2 h1
    obtain ⟨o, ho'⟩ : ∃ o, o = ((2 * i + 1 : Nat) : Rat) := ⟨_, rfl⟩
    rw [Rat.natCast_mul q, Rat.natCast_mul (2 * i + 1), Rat.natCast_add (2 ^ (2 * w)), Rat.natCast_mul (sh * high), Rat.natCast_mul sh, sq_w, ← hU, ← ho'] at h2
    rw [← hq, ← ho']
    rw [← ho'] at ho
    have h3 := mul_mono (mul_nn (Rat.le_of_lt h0) hs0) hs (mul_nn (Rat.le_of_lt h0) hH0) ih
    have h4 := mul_mono (mul_nn (mul_nn (Rat.le_of_lt h0) hs0) (mul_nn (Rat.le_of_lt h0) hH0)) h3 (Rat.le_of_lt ho) Rat.le_refl
    refine le_cancel (pos_mul ho h0) (Rat.le_trans ?_ h2)
    rw [show U * (1 / o + s * H) * (o * U) = U * U + U * s * (U * H) * o by grind]
    grind
/-- the series for a pair that shuts in z: as multiples of 2^-w -/
def logsA (al ah w : Nat) : Nat × Nat := (al * logLo (al * al / 2 ^ w) w 55 * 2 / 2 ^ w, cd (ah * logHi (cd (ah * ah) (2 ^ w)) w 55 * 2) (2 ^ w))
theorem logsA_ok {U z : Rat} {al ah w : Nat} (hU : U = ((2 ^ w : Nat) : Rat)) (hz : 0 ≤ z) (hz3 : z ≤ 1 / 3) (hl : (al : Rat) ≤ U * z) (hh : U * z ≤ (ah : Rat)) :
    Lb (ln z) (((logsA al ah w).1 : Rat) / U) ∧ Ub (ln z) (((logsA al ah w).2 : Rat) / U) := by
  have h0 : 0 < U := by rw [hU]; exact two_pos w
  have hs0 := mul_nn hz hz
  have hs9 : z * z ≤ 1 / 9 := by have := mul_mono hz hz3 hz hz3; grind
  have hUz := mul_nn (Rat.le_of_lt h0) hz
  have s1 : ((al * al / 2 ^ w : Nat) : Rat) ≤ U * (z * z) := by
    have h1 := q_le (Nat.div_mul_le_self (al * al) (2 ^ w))
    rw [Rat.natCast_mul, ← hU] at h1
    have h2 := mul_mono (cast_nn al) hl (cast_nn al) hl
    exact le_cancel h0 (by grind)
  have s2 : U * (z * z) ≤ ((cd (ah * ah) (2 ^ w) : Nat) : Rat) := by
    have h1 := q_ge (cd_ge (a := ah * ah) (Nat.two_pow_pos w))
    rw [Rat.natCast_mul, ← hU] at h1
    have h2 := mul_mono hUz hh hUz hh
    exact le_cancel h0 (by grind)
  constructor
  · refine Lb.of 56 (div_le h0 ?_)
    have h3 := logLo_le hU s1 55 (by omega)
    unfold logsA
    obtain ⟨low, hlow⟩ : ∃ l, l = logLo (al * al / 2 ^ w) w 55 := ⟨_, rfl⟩
    rw [← hlow] at h3 ⊢
    have h1 := q_le (Nat.div_mul_le_self (al * low * 2) (2 ^ w))
    rw [Rat.natCast_mul, Rat.natCast_mul, ← hU] at h1
    have h2 := mul_mono (cast_nn al) hl (cast_nn low) h3
    rw [ln_lt]
    refine le_cancel h0 (Rat.le_trans h1 ?_)
    show _ ≤ 2 * z * lt (z * z) (55 - 55) (55 + 1) * U * U
    have e : ((2 : Nat) : Rat) = 2 := rfl
    rw [e]
    grind
  · intro n
    refine le_div h0 ?_
    have h3 := le_logHi hU hs0 hs9 s2 55 (by omega) n
    unfold logsA
    obtain ⟨high, hhigh⟩ : ∃ l, l = logHi (cd (ah * ah) (2 ^ w)) w 55 := ⟨_, rfl⟩
    rw [← hhigh] at h3 ⊢
    have h1 := q_ge (cd_ge (a := ah * high * 2) (Nat.two_pow_pos w))
    rw [Rat.natCast_mul, Rat.natCast_mul, ← hU] at h1
    have h2 := mul_mono hUz hh (mul_nn (Rat.le_of_lt h0) (lt_nn hs0 n _)) h3
    rw [ln_lt]
    refine le_cancel h0 (Rat.le_trans ?_ h1)
    show 2 * z * lt (z * z) (55 - 55) n * U * U ≤ _
    have e : ((2 : Nat) : Rat) = 2 := rfl
    rw [e]
    grind
theorem lg_pow {a b : Rat} (h1 : Lb (lg 2) a) (h2 : Ub (lg 2) b) : ∀ e : Nat, Lb (lg ((2 ^ e : Nat) : Rat)) (a * (e : Rat)) ∧ Ub (lg ((2 ^ e : Nat) : Rat)) (b * (e : Rat))
  | 0 => by
    rw [show ((2 ^ 0 : Nat) : Rat) = 1 from rfl]
    exact ⟨Lb.of 0 (by rw [lg_one]; grind), fun n => by rw [lg_one]; grind⟩
  | e + 1 => by
    obtain ⟨i1, i2⟩ := lg_pow h1 h2 e
    have hp : (1 : Rat) ≤ ((2 ^ e : Nat) : Rat) := Rat.natCast_le_natCast.2 (Nat.one_le_two_pow)
    have e1 : ((2 ^ (e + 1) : Nat) : Rat) = ((2 ^ e : Nat) : Rat) * 2 := by rw [Nat.pow_succ, Rat.natCast_mul]; rfl
    have e2 : ((e + 1 : Nat) : Rat) = (e : Rat) + 1 := by grind
    rw [e1, e2]
    refine ⟨(Lb.lgm hp (by grind) i1 h1).mono (by grind), (Ub.lgm hp (by grind) i2 h2).mono (by grind)⟩
/-- the logarithm of 2^e times u, and of u divided by 2^e -/
theorem log_split {u a b c d : Rat} (hu : 1 ≤ u) (h1 : Lb (lg 2) a) (h2 : Ub (lg 2) b) (h3 : Lb (lg u) c) (h4 : Ub (lg u) d) (e : Nat) :
    LogB (((2 ^ e : Nat) : Rat) * u) (a * (e : Rat) + c) (b * (e : Rat) + d) ∧ LogB (u / ((2 ^ e : Nat) : Rat)) (c - b * (e : Rat)) (d - a * (e : Rat)) := by
  obtain ⟨i1, i2⟩ := lg_pow h1 h2 e
  have hp : (1 : Rat) ≤ ((2 ^ e : Nat) : Rat) := Rat.natCast_le_natCast.2 (Nat.one_le_two_pow)
  constructor
  · have h5 := mul_nn (show 0 ≤ ((2 ^ e : Nat) : Rat) by grind) (show 0 ≤ u - 1 by grind)
    have := LogB.quot (u := ((2 ^ e : Nat) : Rat) * u) (v := 1) (by grind) Rat.le_refl (Lb.lgm hp hu i1 h3) (Ub.lgm hp hu i2 h4) (Lb.of (a := 0) 0 (by rw [lg_one]; exact Rat.le_refl)) (fun n => by rw [lg_one]; exact Rat.le_refl)
    rw [show ((2 ^ e : Nat) : Rat) * u / 1 = ((2 ^ e : Nat) : Rat) * u by grind] at this
    exact this.mono (by grind) (by grind)
  · exact LogB.quot hu hp h3 h4 i1 i2
end Go.An
/- Sine and cosine as series, their laws of sums: plain mathematics. -/
namespace Go.An
/-- for all great m, and then for all great n -/
def Ev (p : Nat → Nat → Prop) : Prop := ∃ M, ∀ m, M ≤ m → ∃ N, ∀ n, N ≤ n → p m n
theorem Ev.all {p : Nat → Nat → Prop} (h : ∀ m n, p m n) : Ev p := ⟨0, fun m _ => ⟨0, fun n _ => h m n⟩⟩
theorem Ev.mono {p q : Nat → Nat → Prop} (h : Ev p) (hi : ∀ m n, p m n → q m n) : Ev q := by
  obtain ⟨M, h⟩ := h
  refine ⟨M, fun m hm => ?_⟩
  obtain ⟨N, h⟩ := h m hm
  exact ⟨N, fun n hn => hi m n (h n hn)⟩
theorem Ev.and {p q : Nat → Nat → Prop} (h1 : Ev p) (h2 : Ev q) : Ev fun m n => p m n ∧ q m n := by
  obtain ⟨M, h1⟩ := h1
  obtain ⟨M', h2⟩ := h2
  refine ⟨max M M', fun m hm => ?_⟩
  obtain ⟨N, h1⟩ := h1 m (by omega)
  obtain ⟨N', h2⟩ := h2 m (by omega)
  exact ⟨max N N', fun n hn => ⟨h1 n (by omega), h2 n (by omega)⟩⟩
theorem Ev.ex {p : Nat → Nat → Prop} (h : Ev p) : ∃ m n, p m n := by
  obtain ⟨M, h⟩ := h
  obtain ⟨N, h⟩ := h M (Nat.le_refl _)
  exact ⟨M, N, h N (Nat.le_refl _)⟩
/-- vanishing, bounded, of the same limit -/
def Nl (s : Nat → Nat → Rat) : Prop := ∀ e, 0 < e → Ev fun m n => ab (s m n) ≤ e
def Bd (s : Nat → Nat → Rat) : Prop := ∃ B, Ev fun m n => ab (s m n) ≤ B
def Eq2 (s t : Nat → Nat → Rat) : Prop := Nl fun m n => s m n - t m n
theorem half_pos {e : Rat} (h : 0 < e) : 0 < e / 2 := by grind
theorem Nl.zero : Nl fun _ _ => 0 := fun e he => Ev.all fun _ _ => by rw [ab_of Rat.le_refl]; grind
theorem Nl.of {s t : Nat → Nat → Rat} (h : Nl s) (he : ∀ m n, t m n = s m n) : Nl t := fun e h0 => (h e h0).mono fun m n h => by rw [he]; exact h
theorem Nl.ev {s t : Nat → Nat → Rat} (h : Nl s) (he : Ev fun m n => ab (t m n) ≤ ab (s m n)) : Nl t := fun e h0 => ((h e h0).and he).mono fun _ _ h => Rat.le_trans h.2 h.1
theorem Nl.add {s t : Nat → Nat → Rat} (h1 : Nl s) (h2 : Nl t) : Nl fun m n => s m n + t m n := fun e h0 =>
  ((h1 _ (half_pos h0)).and (h2 _ (half_pos h0))).mono fun m n h => by
    have := ab_add (s m n) (t m n)
    obtain ⟨g1, g2⟩ := h
    grind
theorem Nl.neg {s : Nat → Nat → Rat} (h : Nl s) : Nl fun m n => - s m n := fun e h0 => (h e h0).mono fun m n h => by rw [ab_neg]; exact h
theorem Nl.mul {s t : Nat → Nat → Rat} (h1 : Nl s) (h2 : Bd t) : Nl fun m n => s m n * t m n := fun e h0 => by
  obtain ⟨B, hB⟩ := h2
  have hb : 0 < ab B + 1 := by have := ab_nn B; grind
  have he : 0 < e / (ab B + 1) := by rw [Rat.div_def]; exact pos_mul h0 (Rat.inv_pos.2 hb)
  refine ((h1 _ he).and hB).mono fun m n h => ?_
  obtain ⟨g1, g2⟩ := h
  have g3 : ab (t m n) ≤ ab B + 1 := by have := le_ab B; grind
  have := mul_mono (ab_nn _) g1 (ab_nn _) g3
  rw [ab_mul]
  rw [show e / (ab B + 1) * (ab B + 1) = e by grind] at this
  exact this
theorem Bd.const (c : Rat) : Bd fun _ _ => c := ⟨ab c, Ev.all fun _ _ => Rat.le_refl⟩
theorem Bd.add {s t : Nat → Nat → Rat} (h1 : Bd s) (h2 : Bd t) : Bd fun m n => s m n + t m n := by
  obtain ⟨B, h1⟩ := h1; obtain ⟨C, h2⟩ := h2
  exact ⟨B + C, (h1.and h2).mono fun m n h => by have := ab_add (s m n) (t m n); obtain ⟨g1, g2⟩ := h; grind⟩
theorem Bd.mul {s t : Nat → Nat → Rat} (h1 : Bd s) (h2 : Bd t) : Bd fun m n => s m n * t m n := by
  obtain ⟨B, h1⟩ := h1; obtain ⟨C, h2⟩ := h2
  exact ⟨B * C, (h1.and h2).mono fun m n h => by rw [ab_mul]; exact mul_mono (ab_nn _) h.1 (ab_nn _) h.2⟩
theorem Bd.neg {s : Nat → Nat → Rat} (h : Bd s) : Bd fun m n => - s m n := by
  obtain ⟨B, h⟩ := h
  exact ⟨B, h.mono fun m n h => by rw [ab_neg]; exact h⟩
theorem Bd.of_eq {s t : Nat → Nat → Rat} (h : Eq2 s t) (hb : Bd t) : Bd s := by
  obtain ⟨B, hb⟩ := hb
  exact ⟨1 + B, ((h 1 (by grind)).and hb).mono fun m n g => by
    have := ab_add (s m n - t m n) (t m n)
    rw [show s m n - t m n + t m n = s m n by grind] at this
    obtain ⟨g1, g2⟩ := g
    grind⟩
theorem Eq2.refl (s : Nat → Nat → Rat) : Eq2 s s := Nl.zero.of fun _ _ => by grind
theorem Eq2.symm {s t : Nat → Nat → Rat} (h : Eq2 s t) : Eq2 t s := (Nl.neg h).of fun _ _ => by grind
theorem Eq2.trans {s t u : Nat → Nat → Rat} (h1 : Eq2 s t) (h2 : Eq2 t u) : Eq2 s u := (Nl.add h1 h2).of fun _ _ => by grind
theorem Eq2.add {s t u v : Nat → Nat → Rat} (h1 : Eq2 s t) (h2 : Eq2 u v) : Eq2 (fun m n => s m n + u m n) fun m n => t m n + v m n := (Nl.add h1 h2).of fun _ _ => by grind
theorem Eq2.neg {s t : Nat → Nat → Rat} (h1 : Eq2 s t) : Eq2 (fun m n => - s m n) fun m n => - t m n := (Nl.neg h1).of fun _ _ => by grind
theorem Eq2.mul {s t u v : Nat → Nat → Rat} (h1 : Eq2 s t) (h2 : Eq2 u v) (hb : Bd u) (hc : Bd t) : Eq2 (fun m n => s m n * u m n) fun m n => t m n * v m n :=
  (Nl.add (Nl.mul h1 hb) (Nl.mul h2 hc)).of fun m n => by grind
theorem Eq2.of {s t s' t' : Nat → Nat → Rat} (h : Eq2 s t) (h1 : ∀ m n, s' m n = s m n) (h2 : ∀ m n, t' m n = t m n) : Eq2 s' t' := Nl.of h fun m n => by rw [h1, h2]
/-- in the limit not above -/
def Le2 (s t : Nat → Nat → Rat) : Prop := ∀ e, 0 < e → Ev fun m n => s m n ≤ t m n + e
theorem Le2.of {s t : Nat → Nat → Rat} (h : Ev fun m n => s m n ≤ t m n) : Le2 s t := fun e h0 => h.mono fun m n h => by grind
theorem Eq2.le {s t : Nat → Nat → Rat} (h : Eq2 s t) : Le2 s t := fun e h0 => (h e h0).mono fun m n h => by have := le_ab (s m n - t m n); grind
theorem Le2.trans {s t u : Nat → Nat → Rat} (h1 : Le2 s t) (h2 : Le2 t u) : Le2 s u := fun e h0 => ((h1 _ (half_pos h0)).and (h2 _ (half_pos h0))).mono fun m n h => by obtain ⟨g1, g2⟩ := h; grind
theorem Le2.neg {s t : Nat → Nat → Rat} (h : Le2 s t) : Le2 (fun m n => - t m n) fun m n => - s m n := fun e h0 => (h e h0).mono fun m n h => by grind
theorem Le2.const {a b : Rat} (h : Le2 (fun _ _ => a) fun _ _ => b) : a ≤ b := by
  rcases (Rat.le_total : a ≤ b ∨ b ≤ a) with h1 | h1
  · exact h1
  by_cases e : a = b
  · rw [e]; exact Rat.le_refl
  obtain ⟨m, n, g⟩ := (h ((a - b) / 2) (by grind)).ex
  grind
/-- the real and the imaginary parts of the powers of i -/
def wc : Nat → Rat
  | 0 => 1
  | 1 => 0
  | k + 2 => - wc k
def vs : Nat → Rat
  | 0 => 0
  | 1 => 1
  | k + 2 => - vs k
theorem w_step : ∀ k, wc (k + 1) = - vs k ∧ vs (k + 1) = wc k
  | 0 => ⟨by unfold wc vs; grind, by unfold wc vs; grind⟩
  | 1 => ⟨by unfold wc vs; unfold wc; grind, by unfold wc vs; unfold vs; grind⟩
  | k + 2 => by
    obtain ⟨h1, h2⟩ := w_step k
    have e1 : wc (k + 2 + 1) = - wc (k + 1) := rfl
    have e2 : vs (k + 2 + 1) = - vs (k + 1) := rfl
    have e3 : wc (k + 2) = - wc k := rfl
    have e4 : vs (k + 2) = - vs k := rfl
    rw [e1, e2, e3, e4, h1, h2]; grind
theorem w_add (j : Nat) : ∀ k, wc (j + k) = wc j * wc k - vs j * vs k ∧ vs (j + k) = vs j * wc k + wc j * vs k
  | 0 => by rw [Nat.add_zero, show wc 0 = 1 from rfl, show vs 0 = 0 from rfl]; grind
  | k + 1 => by
    obtain ⟨h1, h2⟩ := w_add j k
    obtain ⟨a1, a2⟩ := w_step (j + k)
    obtain ⟨b1, b2⟩ := w_step k
    rw [← Nat.add_assoc, a1, a2, b1, b2, h1, h2]; grind
theorem w_ab : ∀ k, ab (wc k) ≤ 1 ∧ ab (vs k) ≤ 1
  | 0 => ⟨ab_le (by unfold wc; grind) (by unfold wc; grind), ab_le (by unfold vs; grind) (by unfold vs; grind)⟩
  | k + 1 => by
    obtain ⟨h1, h2⟩ := w_ab k
    obtain ⟨b1, b2⟩ := w_step k
    rw [b1, b2, ab_neg]; exact ⟨h2, h1⟩
/-- cosine and sine: what their series have summed -/
def Co (x : Rat) (n : Nat) : Rat := su (fun k => wc k * tx x k) n
def Si (x : Rat) (n : Nat) : Rat := su (fun k => vs k * tx x k) n
/-- the part of the exponential's series from n to 2 n -/
def tl (x : Rat) (n : Nat) : Rat := ex x (2 * n) - ex x n
theorem su_sub (f g : Nat → Rat) (n : Nat) : su (fun k => f k - g k) n = su f n - su g n := by
  rw [show (fun k => f k - g k) = fun k => f k + - g k from funext fun k => by grind, su_add, su_neg]; grind
theorem sq_sub (F G : Nat → Nat → Rat) (n : Nat) : sq (fun j k => F j k - G j k) n = sq F n - sq G n := by
  unfold sq
  rw [← su_sub]
  exact su_congr fun k _ => su_sub _ _ _
theorem tr_sub (F G : Nat → Nat → Rat) (n : Nat) : tr (fun j k => F j k - G j k) n = tr F n - tr G n := by
  unfold tr
  rw [← su_sub]
  exact su_congr fun k _ => su_sub _ _ _
theorem mul_weights (g : Nat → Rat) (hg : ∀ k, ab (g k) ≤ 1) (x y : Rat) (n : Nat) :
    ab (sq (fun j k => g (j + k) * (tx x j * tx y k)) n - su (fun l => g l * tx (x + y) l) n) ≤ tl (ab x + ab y) n := by
  have e1 : su (fun l => g l * tx (x + y) l) n = tr (fun j k => g (j + k) * (tx x j * tx y k)) n := by
    unfold tr
    rw [← tri]
    refine su_congr fun l _ => ?_
    rw [← tx_bin, ← su_mul]
    exact su_congr fun j hj => by rw [show j + (l - j) = l by omega]
  rw [e1]
  refine Rat.le_trans (sq_tr _ n) ?_
  have h1 := tr_sq (F := fun j k => tx (ab x) j * tx (ab y) k - ab (g (j + k) * (tx x j * tx y k))) (fun j k => by
    have h2 := mul_mono (ab_nn _) (hg (j + k)) (ab_nn (tx x j * tx y k)) Rat.le_refl
    rw [ab_mul]
    rw [ab_mul (tx x j), tx_ab, tx_ab] at h2 ⊢
    grind) n
  rw [sq_sub, tr_sub] at h1
  have h3 := tr_ex (ab x) (ab y) n
  have h4 : sq (fun j k => tx (ab x) j * tx (ab y) k) n = ex (ab x) n * ex (ab y) n := sq_prod _ _ n
  have h5 := ex_mul_le (ab_nn x) (ab_nn y) n
  unfold tl
  grind
theorem Co_add (x y : Rat) (n : Nat) : ab (Co x n * Co y n - Si x n * Si y n - Co (x + y) n) ≤ tl (ab x + ab y) n := by
  have h := mul_weights wc (fun k => (w_ab k).1) x y n
  rw [show (fun j k => wc (j + k) * (tx x j * tx y k)) = fun j k => wc j * tx x j * (wc k * tx y k) - vs j * tx x j * (vs k * tx y k) from funext fun j => funext fun k => by rw [(w_add j k).1]; grind, sq_sub, sq_prod, sq_prod] at h
  exact h
theorem Si_add (x y : Rat) (n : Nat) : ab (Si x n * Co y n + Co x n * Si y n - Si (x + y) n) ≤ tl (ab x + ab y) n := by
  have h := mul_weights vs (fun k => (w_ab k).2) x y n
  rw [show (fun j k => vs (j + k) * (tx x j * tx y k)) = fun j k => vs j * tx x j * (wc k * tx y k) - (- wc j * tx x j) * (vs k * tx y k) from funext fun j => funext fun k => by rw [(w_add j k).2]; grind, sq_sub, sq_prod, sq_prod, show (fun j => - wc j * tx x j) = fun j => - (wc j * tx x j) from funext fun j => by grind, su_neg] at h
  unfold Co Si
  rw [show su (fun k => vs k * tx x k) n * su (fun k => wc k * tx y k) n + su (fun k => wc k * tx x k) n * su (fun k => vs k * tx y k) n - su (fun k => vs k * tx (x + y) k) n = su (fun k => vs k * tx x k) n * su (fun k => wc k * tx y k) n - -su (fun k => wc k * tx x k) n * su (fun k => vs k * tx y k) n - su (fun l => vs l * tx (x + y) l) n by grind]
  exact h
theorem tl_nn {x : Rat} (hx : 0 ≤ x) (n : Nat) : 0 ≤ tl x n := by
  have := ex_mono hx (show n ≤ 2 * n by omega)
  unfold tl; grind
theorem su_diff (f : Nat → Rat) (n : Nat) : ∀ k, su f (n + k) - su f n = su (fun j => f (n + j)) k
  | 0 => by rw [Nat.add_zero]; unfold su; grind
  | k + 1 => by
    have := su_diff f n k
    rw [← Nat.add_assoc, su, su, ← this]; grind
theorem tl_mono {x y : Rat} (hx : 0 ≤ x) (h : x ≤ y) (n : Nat) : tl x n ≤ tl y n := by
  have e : ∀ x, tl x n = su (fun j => tx x (n + j)) n := fun x => by
    rw [← su_diff]; unfold tl ex; rw [show 2 * n = n + n by omega]
  rw [e, e]
  exact su_le fun k _ => tx_mono hx h _
theorem tx_halves {x : Rat} (hx : 0 ≤ x) {N : Nat} (hN : 2 * x ≤ (N : Rat)) (k : Nat) : ∀ j, tx x (N + k + j) ≤ tx x (N + k) * (1 / 2) ^ j
  | 0 => by rw [Rat.pow_zero, Nat.add_zero]; grind
  | j + 1 => by
    have ih := tx_halves hx hN k j
    have h1 : x / ((N + k + j + 1 : Nat) : Rat) ≤ 1 / 2 := div_le (cast_pos _) (by
      have : (N : Rat) ≤ ((N + k + j + 1 : Nat) : Rat) := Rat.natCast_le_natCast.2 (by omega)
      grind)
    have h2 := mul_mono (tx_nn hx (N + k + j)) ih (div_nn hx (cast_pos (N + k + j))) h1
    rw [← Nat.add_assoc, tx, Rat.pow_succ]
    grind
theorem halves_sum (c : Rat) : ∀ n, su (fun j => c * (1 / 2) ^ j) n = 2 * c * (1 - (1 / 2) ^ n)
  | 0 => by rw [Rat.pow_zero]; unfold su; grind
  | n + 1 => by rw [su, halves_sum c n, Rat.pow_succ]; grind
theorem tl_small {x : Rat} (hx : 0 ≤ x) {e : Rat} (he : 0 < e) : ∃ N, ∀ n, N ≤ n → tl x n ≤ e := by
  obtain ⟨N, hN⟩ := le_nat (2 * x)
  have hc := tx_nn hx N
  obtain ⟨c, hcd⟩ : ∃ c, c = 2 * tx x N := ⟨_, rfl⟩
  have hc0 : 0 ≤ c := by grind
  have hP : ∃ J : Nat, c * (1 / 2) ^ J ≤ e := by
    obtain ⟨J, hJ⟩ := le_nat (2 * c / e)
    refine ⟨J, ?_⟩
    have h1 := pow_small (q := 1 / 2) (by grind) (by grind) J
    have h2 := of_div_le he hJ
    have h3 := pow_nn (q := 1 / 2) (by grind) J
    have h4 := mul_nn (show (0 : Rat) ≤ (J : Rat) * e - 2 * c by grind) h3
    have h5 : 2 * c * (1 / 2) ^ J ≤ (J : Rat) * (1 / 2) ^ J * e := by grind
    have h6 := mul_mono (mul_nn (cast_nn J) h3) (show (J : Rat) * (1 / 2) ^ J ≤ 2 by grind) (Rat.le_of_lt he) Rat.le_refl
    grind
  obtain ⟨J, hJ⟩ := hP
  refine ⟨N + J, fun n hn => ?_⟩
  obtain ⟨k, rfl⟩ := Nat.le.dest hn
  have e1 : tl x (N + J + k) = su (fun j => tx x (N + (J + k) + j)) (N + J + k) := by
    rw [show N + (J + k) = N + J + k by omega, ← su_diff]; unfold tl ex; rw [show 2 * (N + J + k) = N + J + k + (N + J + k) by omega]
  rw [e1]
  refine Rat.le_trans (su_le fun j _ => tx_halves hx hN (J + k) j) ?_
  rw [halves_sum]
  have h1 := tx_halves hx hN 0 (J + k)
  rw [Nat.add_zero] at h1
  have h2 := pow_nn (q := 1 / 2) (by grind) (N + J + k)
  have h3 := pow_le_one (q := 1 / 2) (by grind) (by grind) k
  have h4 := pow_nn (q := 1 / 2) (by grind) J
  have h5 := tx_nn hx (N + (J + k))
  have e2 : (1 / 2 : Rat) ^ (J + k) = (1 / 2) ^ J * (1 / 2) ^ k := by grind
  have h6 := mul_mono h4 Rat.le_refl (pow_nn (q := 1 / 2) (by grind) k) h3
  have h7 := mul_mono hc0 Rat.le_refl (pow_nn (q := 1 / 2) (by grind) (J + k)) (show (1 / 2 : Rat) ^ (J + k) ≤ (1 / 2) ^ J by grind)
  have h8 := mul_nn h5 h2
  rw [show N + J + k = N + (J + k) by omega] at h8 ⊢
  have h9 : 2 * tx x N * (1 / 2) ^ (J + k) ≤ c * (1 / 2) ^ J := by rw [← hcd]; exact h7
  clear h7 h6 e2 h4 h3 e1 hn hc hcd h2
  have h10 : 2 * tx x (N + (J + k)) ≤ 2 * (tx x N * (1 / 2) ^ (J + k)) := by grind
  have h11 : 2 * tx x (N + (J + k)) * (1 - (1 / 2) ^ (N + (J + k))) ≤ 2 * tx x (N + (J + k)) := by grind
  exact Rat.le_trans h11 (Rat.le_trans h10 (Rat.le_trans (by grind) (Rat.le_trans h9 hJ)))
theorem Nl.tl (X : Nat → Rat) (hX : ∀ m, 0 ≤ X m) : Nl fun m n => tl (X m) n := fun e he => ⟨0, fun m _ => by
  obtain ⟨N, h⟩ := tl_small (hX m) he
  exact ⟨N, fun n hn => by show ab (Go.An.tl (X m) n) ≤ e; rw [ab_of (tl_nn (hX m) n)]; exact h n hn⟩⟩
/-- the laws of sums, in the limit -/
theorem Eq2.Co_add (x y : Nat → Rat) : Eq2 (fun m n => Co (x m + y m) n) fun m n => Co (x m) n * Co (y m) n - Si (x m) n * Si (y m) n :=
  Eq2.symm (Nl.ev (Nl.tl (fun m => ab (x m) + ab (y m)) fun m => by have := ab_nn (x m); have := ab_nn (y m); grind) (Ev.all fun m n => by
    rw [ab_of (tl_nn (by have := ab_nn (x m); have := ab_nn (y m); grind) n)]; exact Go.An.Co_add (x m) (y m) n))
theorem Eq2.Si_add (x y : Nat → Rat) : Eq2 (fun m n => Si (x m + y m) n) fun m n => Si (x m) n * Co (y m) n + Co (x m) n * Si (y m) n :=
  Eq2.symm (Nl.ev (Nl.tl (fun m => ab (x m) + ab (y m)) fun m => by have := ab_nn (x m); have := ab_nn (y m); grind) (Ev.all fun m n => by
    rw [ab_of (tl_nn (by have := ab_nn (x m); have := ab_nn (y m); grind) n)]; exact Go.An.Si_add (x m) (y m) n))
theorem tx_negate (x : Rat) : ∀ k, vs k * tx (-x) k = - (vs k * tx x k) ∧ wc k * tx (-x) k = wc k * tx x k
  | 0 => by unfold vs wc tx; grind
  | 1 => by unfold vs wc tx; unfold tx; grind
  | k + 2 => by
    obtain ⟨h1, h2⟩ := tx_negate x k
    have e1 : vs (k + 2) = - vs k := rfl
    have e2 : wc (k + 2) = - wc k := rfl
    have e3 : ∀ x, tx x (k + 2) = tx x k * (x * x) * (1 / ((k + 1 : Nat) : Rat) * (1 / ((k + 2 : Nat) : Rat))) := fun x => by rw [tx, tx]; grind
    rw [e1, e2, e3, e3]; grind
theorem Si_neg (x : Rat) (n : Nat) : Si (-x) n = - Si x n := by
  unfold Si
  rw [← su_neg]; exact su_congr fun k _ => (tx_negate x k).1
theorem Co_neg (x : Rat) (n : Nat) : Co (-x) n = Co x n := su_congr fun k _ => (tx_negate x k).2
theorem weights_le (g : Nat → Rat) (hg : ∀ k, ab (g k) ≤ 1) (x : Rat) (n : Nat) : ab (su (fun k => g k * tx x k) n) ≤ ex (ab x) n := by
  refine Rat.le_trans (su_ab _ n) (su_le fun k _ => ?_)
  have := mul_mono (ab_nn _) (hg k) (ab_nn (tx x k)) Rat.le_refl
  rw [ab_mul, ← tx_ab]; grind
theorem hr_two' {y : Rat} (hy : 0 ≤ y) (hy2 : y ≤ 1) : ∀ (n i : Nat), 2 ≤ i → hr y i n ≤ 2
  | 0, i, _ => by rw [hr]; grind
  | n + 1, i, hi => by
    have h1 := hr_two' hy hy2 n (i + 1) (by omega)
    have h0 := hr_nn hy n (i + 1) (by omega)
    obtain ⟨j, rfl⟩ : ∃ j, i = j + 1 := ⟨i - 1, by omega⟩
    have h2 : y / ((j + 1 : Nat) : Rat) ≤ 1 / 2 := div_le (cast_pos j) (by
      have : ((2 : Nat) : Rat) ≤ ((j + 1 : Nat) : Rat) := Rat.natCast_le_natCast.2 hi
      have e : ((2 : Nat) : Rat) = 2 := rfl
      grind)
    have h3 := mul_mono (div_nn hy (cast_pos j)) h2 h0 h1
    rw [hr]; grind
/-- behind its first two terms the exponential's series is at most the square -/
theorem ex_two {y : Rat} (hy : 0 ≤ y) (hy1 : y ≤ 1) (n : Nat) : ex y n ≤ 1 + y + y * y := by
  rw [ex_hr]
  match n with
  | 0 => rw [hr]; have := mul_nn hy hy; grind
  | 1 => rw [hr, hr]; have := mul_nn hy hy; grind
  | n + 2 =>
    have h1 := hr_two' hy hy1 n 3 (by omega)
    have h2 := mul_mono (mul_nn hy hy) Rat.le_refl (hr_nn hy n 3 (by omega)) h1
    rw [hr, hr]
    have e1 : ((1 : Nat) : Rat) = 1 := rfl
    have e2 : ((1 + 1 : Nat) : Rat) = 2 := rfl
    rw [e1, e2]; grind
theorem ex_three {y : Rat} (hy : 0 ≤ y) (hy1 : y ≤ 1) (n : Nat) : ex y n ≤ 3 := by
  have := ex_two hy hy1 n
  have := mul_mono hy hy1 hy hy1
  grind
/-- near 0 -/
theorem near_zero (g : Nat → Rat) (hg : ∀ k, ab (g k) ≤ 1) {x : Rat} (hx : ab x ≤ 1) {n : Nat} (hn : 2 ≤ n) : ab (su (fun k => g k * tx x k) n - (g 0 + g 1 * x)) ≤ x * x := by
  have h1 := su_part (f := fun k => g k * tx x k) hn
  rw [show su (fun k => g k * tx x k) 2 = g 0 + g 1 * x by unfold su su su tx tx; grind] at h1
  refine Rat.le_trans h1 ?_
  obtain ⟨k, rfl⟩ := Nat.le.dest hn
  rw [su_diff]
  have h2 : su (fun j => ab (g (2 + j) * tx x (2 + j))) k ≤ su (fun j => tx (ab x) (2 + j)) k := su_le fun j _ => by
    have := mul_mono (ab_nn _) (hg (2 + j)) (ab_nn (tx x (2 + j))) Rat.le_refl
    rw [ab_mul, ← tx_ab]; grind
  rw [← su_diff] at h2
  have h3 := ex_two (ab_nn x) hx (2 + k)
  have e : su (tx (ab x)) 2 = 1 + ab x := by unfold su su su tx tx; grind
  have e2 : ab x * ab x = x * x := by rw [← ab_mul, ab_of]; rcases (Rat.le_total : 0 ≤ x ∨ x ≤ 0) with h | h
                                      · exact mul_nn h h
                                      · have := mul_nn (show 0 ≤ -x by grind) (show 0 ≤ -x by grind); grind
  unfold ex at h3
  grind
end Go.An
/- The arctangent as a series: its tangent; a quarter turn: plain mathematics. -/
namespace Go.An
/-- the arctangent's series, its derivative's -/
def At (t : Rat) (m : Nat) : Rat := su (fun i => (-1) ^ i * (t ^ (2 * i + 1) / ((2 * i + 1 : Nat) : Rat))) m
def agm (z : Rat) (m : Nat) : Rat := su (fun i => (-1) ^ i * z ^ (2 * i)) m
theorem sgn_ab : ∀ i : Nat, ab ((-1 : Rat) ^ i) = 1
  | 0 => by rw [Rat.pow_zero]; exact ab_of (by grind)
  | i + 1 => by rw [Rat.pow_succ, ab_mul, sgn_ab i, ab_np (by grind)]; grind
theorem agm_eq (z : Rat) : ∀ m, (1 + z * z) * agm z m = 1 - (-1) ^ m * z ^ (2 * m)
  | 0 => by unfold agm su; rw [Nat.mul_zero, Rat.pow_zero, Rat.pow_zero]; grind
  | m + 1 => by
    have ih := agm_eq z m
    rw [agm, su, ← agm, show 2 * (m + 1) = 2 * m + 1 + 1 by omega, Rat.pow_succ, Rat.pow_succ, Rat.pow_succ]
    grind
theorem At_zero (m : Nat) : At 0 m = 0 := by
  unfold At
  rw [su_congr (g := fun _ => 0 * 0) fun k _ => by rw [Rat.pow_succ]; grind, su_mul, Rat.zero_mul]
theorem At_step {z w : Rat} (hz : 0 ≤ z) (hw : z ≤ w) (m : Nat) : ab (At w m - At z m - (w - z) * agm z m) ≤ (w - z) * (geo w m - geo z m) := by
  unfold At agm geo
  rw [← su_mul, ← su_sub, ← su_sub, ← su_sub, ← su_mul]
  refine Rat.le_trans (su_ab _ m) (su_le fun i _ => ?_)
  have ho := odd_pos i
  have h1 := div_le (a := w ^ (2 * i) * (w - z)) ho (b := w ^ (2 * i + 1) - z ^ (2 * i + 1)) (by have := pow_up hz hw (2 * i); grind)
  have h2 := le_div (a := z ^ (2 * i) * (w - z)) ho (b := w ^ (2 * i + 1) - z ^ (2 * i + 1)) (by have := pow_dn hz hw (2 * i); grind)
  rw [show (-1 : Rat) ^ i * (w ^ (2 * i + 1) / ((2 * i + 1 : Nat) : Rat)) - (-1) ^ i * (z ^ (2 * i + 1) / ((2 * i + 1 : Nat) : Rat)) - (w - z) * ((-1) ^ i * z ^ (2 * i)) = (-1) ^ i * ((w ^ (2 * i + 1) - z ^ (2 * i + 1)) / ((2 * i + 1 : Nat) : Rat) - z ^ (2 * i) * (w - z)) by grind, ab_mul, sgn_ab, Rat.one_mul, ab_of (by grind)]
  grind
theorem geo_mono {z w : Rat} (hz : 0 ≤ z) (hw : z ≤ w) (m : Nat) : geo z m ≤ geo w m := su_le fun k _ => pow_mono hz hw _
theorem geo_two {z : Rat} (hz : 0 ≤ z) (h : z ≤ 1 / 2) (m : Nat) : geo z m ≤ 2 := by
  refine Rat.le_trans (geo_le hz (by grind) m) (div_le ?_ ?_)
  · have := mul_mono hz h hz h; grind
  · have := mul_mono hz h hz h; grind
theorem agm_ab (z : Rat) (hz : 0 ≤ z) (m : Nat) : ab (agm z m) ≤ geo z m := by
  refine Rat.le_trans (su_ab _ m) (su_le fun i _ => ?_)
  rw [ab_mul, sgn_ab, ab_of (pow_nn hz _)]; grind
theorem At_diff {z w : Rat} (hz : 0 ≤ z) (hw : z ≤ w) (h2 : w ≤ 1 / 2) (m : Nat) : ab (At w m - At z m) ≤ 2 * (w - z) := by
  have h1 := At_step hz hw m
  have h3 := ab_add (At w m - At z m - (w - z) * agm z m) ((w - z) * agm z m)
  rw [show At w m - At z m - (w - z) * agm z m + (w - z) * agm z m = At w m - At z m by grind, ab_mul, ab_of (show 0 ≤ w - z by grind)] at h3
  have h4 := mul_mono (show 0 ≤ w - z by grind) Rat.le_refl (ab_nn _) (agm_ab z hz m)
  have h5 := mul_mono (show 0 ≤ w - z by grind) Rat.le_refl (geo_nn (z := w) (by grind) m) (geo_two (z := w) (by grind) h2 m)
  grind
theorem At_small {t : Rat} (ht : 0 ≤ t) (h2 : t ≤ 1 / 2) (m : Nat) : ab (At t m) ≤ 2 * t := by
  have := At_diff (z := 0) Rat.le_refl ht h2 m
  rw [At_zero] at this
  rw [show At t m = At t m - 0 by grind]; grind
theorem At_slope {z w T : Rat} (hz : 0 ≤ z) (hw : z ≤ w) (hT : z ≤ T) (h1 : T ≤ 1) (m : Nat) : ab ((At w m - At z m) * (1 + z * z) - (w - z)) ≤ (w - z) * T ^ (2 * m) + 2 * (w - z) * (geo w m - geo z m) := by
  have h2 := At_step hz hw m
  have h3 := agm_eq z m
  have hzz := mul_nn hz hz
  have hz1 : z * z ≤ 1 := by have := mul_mono hz (show z ≤ 1 by grind) hz (show z ≤ 1 by grind); grind
  have e : (At w m - At z m) * (1 + z * z) - (w - z) = (At w m - At z m - (w - z) * agm z m) * (1 + z * z) + - ((w - z) * ((-1) ^ m * z ^ (2 * m))) := by grind
  rw [e]
  refine Rat.le_trans (ab_add _ _) ?_
  rw [ab_neg, ab_mul, ab_mul, ab_mul, sgn_ab, ab_of (pow_nn hz _), ab_of (show 0 ≤ w - z by grind), ab_of (show 0 ≤ 1 + z * z by grind)]
  have h4 := mul_mono (ab_nn _) h2 (show 0 ≤ 1 + z * z by grind) (show 1 + z * z ≤ 2 by grind)
  have h5 := mul_mono (show 0 ≤ w - z by grind) Rat.le_refl (pow_nn hz (2 * m)) (pow_mono hz hT (2 * m))
  grind
theorem tri_ab {a b : Rat} (x y : Rat) (hx : ab x ≤ a) (hy : ab y ≤ b) : ab (x + y) ≤ a + b := by
  have := ab_add x y; grind
theorem mul_ab {a b : Rat} (x y : Rat) (hx : ab x ≤ a) (hy : ab y ≤ b) : ab (x * y) ≤ a * b := by
  rw [ab_mul]; exact mul_mono (ab_nn x) hx (ab_nn y) hy
/-- one small turn -/
theorem turn_step {S C s c S' C' t h d tau w : Rat} (h1 : ab (S * c + C * s - S') ≤ tau) (h2 : ab (C * c - S * s - C') ≤ tau) (h3 : ab (s - d) ≤ d * d) (h4 : ab (c - 1) ≤ d * d)
    (hS : ab S ≤ 3) (hC : ab C ≤ 3) (hd : ab d ≤ 2 * h) (ht : 0 ≤ t) (hh : 0 ≤ h) (hth : t + h ≤ 1) (hw : ab (d * (1 + t * t) - h) ≤ w) :
    ab (S' - (t + h) * C') ≤ (1 + 2 * h) * ab (S - t * C) + (3 * w + 60 * (h * h) + 2 * tau) := by
  have hdd : d * d ≤ 4 * (h * h) := by
    have := mul_ab d d hd hd
    have := le_ab (d * d); grind
  have k3 : ab (s - d) ≤ 4 * (h * h) := Rat.le_trans h3 hdd
  have k4 : ab (c - 1) ≤ 4 * (h * h) := Rat.le_trans h4 hdd
  have hth0 : ab (t + h) ≤ 1 := by rw [ab_of (by grind)]; exact hth
  have ht1 : ab t ≤ 1 := by rw [ab_of ht]; grind
  have e : S' - (t + h) * C' = (S - t * C) + ((S - t * C) * (d * t) + (C * (d * (1 + t * t) - h) + (h * (d * S) + ((S * (c - 1) + C * (s - d)) + (-((t + h) * (C * (c - 1) + -(S * (s - d)))) + (-(S * c + C * s - S') + (t + h) * (C * c - S * s - C'))))))) := by grind
  have b1 : ab ((S - t * C) * (d * t)) ≤ ab (S - t * C) * (2 * h * 1) := mul_ab _ _ Rat.le_refl (mul_ab _ _ hd ht1)
  have b2 : ab (C * (d * (1 + t * t) - h)) ≤ 3 * w := mul_ab _ _ hC hw
  have b3 : ab (h * (d * S)) ≤ h * (2 * h * 3) := mul_ab _ _ (by rw [ab_of hh]; exact Rat.le_refl) (mul_ab _ _ hd hS)
  have b4 : ab (S * (c - 1) + C * (s - d)) ≤ 3 * (4 * (h * h)) + 3 * (4 * (h * h)) := tri_ab _ _ (mul_ab _ _ hS k4) (mul_ab _ _ hC k3)
  have b5 : ab (-((t + h) * (C * (c - 1) + -(S * (s - d))))) ≤ 1 * (3 * (4 * (h * h)) + 3 * (4 * (h * h))) := by
    rw [ab_neg]
    exact mul_ab _ _ hth0 (tri_ab _ _ (mul_ab _ _ hC k4) (by rw [ab_neg]; exact mul_ab _ _ hS k3))
  have b6 : ab (-(S * c + C * s - S') + (t + h) * (C * c - S * s - C')) ≤ tau + 1 * tau := tri_ab _ _ (by rw [ab_neg]; exact h1) (mul_ab _ _ hth0 h2)
  rw [e]
  refine Rat.le_trans (tri_ab _ _ (Rat.le_refl (a := ab (S - t * C))) (tri_ab _ _ b1 (tri_ab _ _ b2 (tri_ab _ _ b3 (tri_ab _ _ b4 (tri_ab _ _ b5 b6)))))) ?_
  have := mul_nn hh hh
  clear b1 b2 b3 b4 b5 b6 e k3 k4 h1 h2 h3 h4 hS hC hd hw hth0 ht1 hdd
  grind
theorem bern_up {x : Rat} (hx : 0 ≤ x) : ∀ k : Nat, (1 + x) ^ k * (1 - (k : Rat) * x) ≤ 1
  | 0 => by rw [Rat.pow_zero, show ((0 : Nat) : Rat) = 0 from rfl]; grind
  | k + 1 => by
    have ih := bern_up hx k
    have h1 := mul_nn (pow_nn (q := 1 + x) (by grind) k) (mul_nn (cast_nn (k + 1)) (mul_nn hx hx))
    have e : ((k + 1 : Nat) : Rat) = (k : Rat) + 1 := by grind
    rw [e] at h1 ⊢
    rw [Rat.pow_succ]; grind
theorem pow_one' : ∀ j : Nat, (1 : Rat) ^ j = 1
  | 0 => Rat.pow_zero _
  | j + 1 => by rw [Rat.pow_succ, pow_one' j]; grind
/-- what grows by a little at each step -/
theorem grow {a : Rat} (ha : 0 ≤ a) (d e : Nat → Rat) (he : ∀ j, 0 ≤ e j) (h0 : d 0 ≤ 0) {k : Nat} (h : ∀ j, j < k → d (j + 1) ≤ (1 + a) * d j + e j) : ∀ j, j ≤ k → d j ≤ (1 + a) ^ j * su e j
  | 0, _ => by rw [su, Rat.mul_zero]; exact h0
  | j + 1, hj => by
    have ih := mul_mono (show 0 ≤ 1 + a by grind) Rat.le_refl (Rat.le_refl (a := 0)) Rat.le_refl
    have h1 := grow ha d e he h0 h j (by omega)
    have h2 := h j (by omega)
    have h3 := mul_nn (show 0 ≤ 1 + a by grind) (show 0 ≤ (1 + a) ^ j * su e j - d j by grind)
    have h4 : 1 ≤ (1 + a) ^ (j + 1) := by
      have := pow_mono (a := 1) (b := 1 + a) (by grind) (by grind) (j + 1)
      rw [pow_one'] at this
      exact this
    have h5 := mul_nn (show 0 ≤ (1 + a) ^ (j + 1) - 1 by grind) (he j)
    rw [su]
    rw [Rat.pow_succ] at h4 h5 ⊢
    grind
theorem tan_bound {T : Rat} (hT : 0 ≤ T) (h4 : T ≤ 1 / 4) (m : Nat) {K : Nat} (hK : 0 < K) {n : Nat} (hn : 2 ≤ n) :
    ab (Si (At T m) n - T * Co (At T m) n) ≤ 6 * T ^ (2 * m) + 144 * (T / (K : Rat)) + 4 * (K : Rat) * tl 2 n := by
  have hK' := cast_lt hK
  obtain ⟨h, hh⟩ : ∃ h, h = T / (K : Rat) := ⟨_, rfl⟩
  have h0 : 0 ≤ h := by rw [hh]; exact div_nn hT hK'
  have hKh : (K : Rat) * h = T := by rw [hh]; grind
  have ht0 := tl_nn (x := 2) (by grind) n
  have hP := pow_nn hT (2 * m)
  obtain ⟨P, hPd⟩ : ∃ P, P = T ^ (2 * m) := ⟨_, rfl⟩
  rw [← hPd] at hP
  have hle : ∀ j : Nat, j ≤ K → (j : Rat) * h ≤ T := fun j hj => by
    have := mul_mono (cast_nn j) (show (j : Rat) ≤ (K : Rat) from Rat.natCast_le_natCast.2 hj) h0 Rat.le_refl
    grind
  have hg := fun j => geo_mono (z := ((j : Nat) : Rat) * h) (w := ((j + 1 : Nat) : Rat) * h) (mul_nn (cast_nn j) h0) (mul_mono (cast_nn j) (Rat.natCast_le_natCast.2 (by omega)) h0 Rat.le_refl) m
  have ev := grow (a := 2 * h) (by grind) (fun j => ab (Si (At ((j : Rat) * h) m) n - (j : Rat) * h * Co (At ((j : Rat) * h) m) n)) (fun j => 3 * (h * P + 2 * h * (geo (((j + 1 : Nat) : Rat) * h) m - geo ((j : Rat) * h) m)) + 60 * (h * h) + 2 * tl 2 n)
    (fun j => by
      have h1 := mul_nn h0 hP
      have h2 := mul_nn h0 (show 0 ≤ geo (((j + 1 : Nat) : Rat) * h) m - geo ((j : Rat) * h) m by have := hg j; grind)
      have h3 := mul_nn h0 h0
      grind)
    (by
      show ab (Si (At (((0 : Nat) : Rat) * h) m) n - ((0 : Nat) : Rat) * h * Co (At (((0 : Nat) : Rat) * h) m) n) ≤ 0
      rw [show ((0 : Nat) : Rat) = 0 from rfl, Rat.zero_mul, At_zero, Rat.zero_mul]
      have : Si 0 n = 0 := by
        have := Si_neg 0 n
        rw [show (-0 : Rat) = 0 by grind] at this
        grind
      rw [this, ab_of (by grind)]; grind)
    (k := K) (fun j hj => by
      have ej : ((j + 1 : Nat) : Rat) * h = (j : Rat) * h + h := by
        have : ((j + 1 : Nat) : Rat) = (j : Rat) + 1 := by grind
        rw [this]; grind
      have hj0 := mul_nn (cast_nn j) h0
      have hj1 := hle (j + 1) (by omega)
      rw [ej] at hj1
      obtain ⟨t, htd⟩ : ∃ t, t = (j : Rat) * h := ⟨_, rfl⟩
      show ab (Si (At (((j + 1 : Nat) : Rat) * h) m) n - ((j + 1 : Nat) : Rat) * h * Co (At (((j + 1 : Nat) : Rat) * h) m) n) ≤ (1 + 2 * h) * ab (Si (At ((j : Rat) * h) m) n - (j : Rat) * h * Co (At ((j : Rat) * h) m) n) + (3 * (h * P + 2 * h * (geo (((j + 1 : Nat) : Rat) * h) m - geo ((j : Rat) * h) m)) + 60 * (h * h) + 2 * tl 2 n)
      rw [ej, ← htd]
      rw [← htd] at hj0 hj1
      obtain ⟨d, hd⟩ : ∃ d, d = At (t + h) m - At t m := ⟨_, rfl⟩
      have ea : At (t + h) m = At t m + d := by grind
      have hda : ab d ≤ 2 * h := by
        have := At_diff hj0 (show t ≤ t + h by grind) (by grind) m
        rw [hd]; grind
      have haa : ab (At t m) ≤ 1 / 2 := by
        have := At_small hj0 (by grind) m; grind
      have hd1 : ab d ≤ 1 := by grind
      have hnn := ab_nn (At t m)
      have hdn := ab_nn d
      have ht2 := tl_mono (x := ab (At t m) + ab d) (y := 2) (by grind) (by grind) n
      have hsl := At_slope (T := T) hj0 (show t ≤ t + h by grind) (by grind) (by grind) m
      rw [show t + h - t = h by grind, ← hd, ← hPd] at hsl
      have b3 := weights_le vs (fun k => (w_ab k).2) (At t m) n
      have b4 := weights_le wc (fun k => (w_ab k).1) (At t m) n
      have b5 := ex_three hnn (by grind) n
      have n1 := near_zero vs (fun k => (w_ab k).2) hd1 hn
      have n2 := near_zero wc (fun k => (w_ab k).1) hd1 hn
      rw [show vs 0 + vs 1 * d = d by unfold vs; grind] at n1
      rw [show wc 0 + wc 1 * d = 1 by unfold wc; grind] at n2
      have s1 := Si_add (At t m) d n
      have s2 := Co_add (At t m) d n
      rw [← ea] at s1 s2
      exact turn_step (Rat.le_trans s1 ht2) (Rat.le_trans s2 ht2) n1 n2 (Rat.le_trans b3 b5) (Rat.le_trans b4 b5) hda hj0 h0 (by grind) hsl) K (Nat.le_refl _)
  have e1 : ∀ k : Nat, su (fun j => 3 * (h * P + 2 * h * (geo (((j + 1 : Nat) : Rat) * h) m - geo ((j : Rat) * h) m)) + 60 * (h * h) + 2 * tl 2 n) k = (k : Rat) * (3 * (h * P) + 60 * (h * h) + 2 * tl 2 n) + 6 * h * (geo ((k : Rat) * h) m - geo 0 m) := by
    intro k
    induction k with
    | zero => rw [show ((0 : Nat) : Rat) = 0 from rfl, Rat.zero_mul, Rat.zero_mul]; unfold su; grind
    | succ k ih =>
      rw [su, ih]
      have : ((k + 1 : Nat) : Rat) = (k : Rat) + 1 := by grind
      grind
  simp only [hKh] at ev
  rw [e1, hKh] at ev
  have hb := bern_up (x := 2 * h) (by grind) K
  have hb2 : (1 + 2 * h) ^ K ≤ 2 := by
    have h5 : 1 / 2 ≤ 1 - (K : Rat) * (2 * h) := by grind
    have h6 := mul_mono (pow_nn (q := 1 + 2 * h) (by grind) K) Rat.le_refl (show (0 : Rat) ≤ 1 / 2 by grind) h5
    grind
  have g0 := geo_nn (z := 0) Rat.le_refl m
  have g1 := geo_two hT (by grind) m
  have g2 := geo_mono (z := 0) (w := T) Rat.le_refl hT m
  have hS : (K : Rat) * (3 * (h * P) + 60 * (h * h) + 2 * tl 2 n) + 6 * h * (geo T m - geo 0 m) ≤ 3 * P + 72 * h + 2 * (K : Rat) * tl 2 n := by
    have q1 := mul_mono hT (show T ≤ 1 by grind) hP Rat.le_refl
    have q2 := mul_mono hT (show T ≤ 1 by grind) h0 Rat.le_refl
    have q3 := mul_mono h0 Rat.le_refl (show 0 ≤ geo T m - geo 0 m by grind) (show geo T m - geo 0 m ≤ 2 by grind)
    have q4 : (K : Rat) * (3 * (h * P) + 60 * (h * h) + 2 * tl 2 n) = 3 * (T * P) + 60 * (T * h) + 2 * (K : Rat) * tl 2 n := by rw [← hKh]; grind
    rw [q4]; grind
  have hS0 : 0 ≤ (K : Rat) * (3 * (h * P) + 60 * (h * h) + 2 * tl 2 n) + 6 * h * (geo T m - geo 0 m) := by
    have q1 := mul_nn (cast_nn K) (show 0 ≤ 3 * (h * P) + 60 * (h * h) + 2 * tl 2 n by have := mul_nn h0 hP; have := mul_nn h0 h0; grind)
    have q2 := mul_nn h0 (show 0 ≤ geo T m - geo 0 m by grind)
    grind
  have hF := mul_mono (pow_nn (q := 1 + 2 * h) (by grind) K) hb2 hS0 hS
  have ev2 : ab (Si (At T m) n - T * Co (At T m) n) ≤ (1 + 2 * h) ^ K * ((K : Rat) * (3 * (h * P) + 60 * (h * h) + 2 * tl 2 n) + 6 * h * (geo T m - geo 0 m)) := by
    have := ev
    exact this
  rw [← hh, ← hPd]
  grind
theorem pow_ev {q c e : Rat} (hq : 0 ≤ q) (hq1 : q < 1) (hc : 0 ≤ c) (he : 0 < e) : ∃ M : Nat, ∀ m, M ≤ m → c * q ^ m ≤ e := by
  have h0 : 0 < 1 - q := by grind
  obtain ⟨M, hM⟩ := le_nat (c / (1 - q) / e)
  refine ⟨M, fun m hm => ?_⟩
  have h1 := pow_small hq hq1 m
  have h2 := pow_nn hq m
  have h3 : c ≤ (m : Rat) * (1 - q) * e := by
    have h4 := of_div_le h0 (of_div_le he hM)
    have h5 := mul_mono (mul_nn (cast_nn M) (Rat.le_of_lt he)) (mul_mono (cast_nn M) (show (M : Rat) ≤ (m : Rat) from Rat.natCast_le_natCast.2 hm) (Rat.le_of_lt he) Rat.le_refl) (Rat.le_of_lt h0) Rat.le_refl
    grind
  have h6 := mul_mono hc h3 h2 Rat.le_refl
  have h7 : q ^ m * ((m : Rat) * (1 - q)) ≤ 1 := by grind
  have h8 := mul_mono (mul_nn h2 (mul_nn (cast_nn m) (Rat.le_of_lt h0))) h7 (Rat.le_of_lt he) Rat.le_refl
  grind
/-- the tangent of the arctangent -/
theorem At_tan {T : Rat} (hT : 0 ≤ T) (h4 : T ≤ 1 / 4) : Eq2 (fun m n => Si (At T m) n) fun m n => T * Co (At T m) n := fun e he => by
  have he3 : 0 < e / 3 := by grind
  have hTT : T * T < 1 := by have := mul_mono hT h4 hT h4; grind
  obtain ⟨M, hM⟩ := pow_ev (mul_nn hT hT) hTT (show (0 : Rat) ≤ 6 by grind) he3
  obtain ⟨K, hK⟩ := le_nat (144 * T / (e / 3))
  refine ⟨M, fun m hm => ?_⟩
  have hc : 0 < e / 3 / (4 * ((K + 1 : Nat) : Rat)) := by
    rw [Rat.div_def]; exact pos_mul he3 (Rat.inv_pos.2 (by have := cast_pos K; grind))
  obtain ⟨N, hN⟩ := tl_small (x := 2) (by grind) hc
  refine ⟨N + 2, fun n hn => Rat.le_trans (tan_bound hT h4 m (K := K + 1) (by omega) (by omega)) ?_⟩
  have h1 := hM m hm
  rw [← pow_two] at h1
  have h2 : 144 * (T / ((K + 1 : Nat) : Rat)) ≤ e / 3 := by
    rw [show 144 * (T / ((K + 1 : Nat) : Rat)) = 144 * T / ((K + 1 : Nat) : Rat) by grind]
    refine div_le (cast_pos K) ?_
    have := of_div_le he3 hK
    have e2 : ((K + 1 : Nat) : Rat) = (K : Rat) + 1 := by grind
    rw [e2]; grind
  have h3 := of_le_div (show 0 < 4 * ((K + 1 : Nat) : Rat) by have := cast_pos K; grind) (hN n (by omega))
  grind
theorem Bd.tri {X : Rat} (g : Nat → Rat) (hg : ∀ k, ab (g k) ≤ 1) (hX : X ≤ 1) {x : Nat → Rat} (h : ∀ m, ab (x m) ≤ X) : Bd fun m n => su (fun k => g k * tx (x m) k) n :=
  ⟨3, Ev.all fun m n => Rat.le_trans (weights_le g hg (x m) n) (ex_three (ab_nn _) (by have := h m; grind) n)⟩
theorem Co_zero {n : Nat} (hn : 1 ≤ n) : Co 0 n = 1 := by
  obtain ⟨k, rfl⟩ := Nat.le.dest hn
  unfold Co
  rw [Nat.add_comm, su_head, su_congr (g := fun _ => 0 * 0) fun k _ => by rw [tx]; grind, su_mul, show wc 0 * tx 0 0 = 1 by unfold wc tx; grind]; grind
/-- the squares of cosine and sine together -/
theorem Eq2.pyth (x : Nat → Rat) : Eq2 (fun m n => Co (x m) n * Co (x m) n + Si (x m) n * Si (x m) n) fun _ _ => 1 := by
  have h := Eq2.Co_add x fun m => - x m
  refine Eq2.trans (Eq2.symm (h.of (fun _ _ => rfl) fun m n => by rw [Co_neg, Si_neg]; grind)) fun e he => ⟨0, fun m _ => ⟨1, fun n hn => ?_⟩⟩
  show ab (Co (x m + - x m) n - 1) ≤ e
  rw [show x m + - x m = 0 by grind, Co_zero hn, ab_of (by grind)]; grind
theorem Eq2.dbl {x : Nat → Rat} {c s : Rat} (h1 : Eq2 (fun m n => Co (x m) n) fun _ _ => c) (h2 : Eq2 (fun m n => Si (x m) n) fun _ _ => s) :
    Eq2 (fun m n => Co (x m + x m) n) (fun _ _ => c * c - s * s) ∧ Eq2 (fun m n => Si (x m + x m) n) fun _ _ => 2 * s * c := by
  have b1 := Bd.of_eq h1 (Bd.const c)
  have b2 := Bd.of_eq h2 (Bd.const s)
  constructor
  · refine Eq2.trans (Eq2.Co_add x x) ?_
    exact (Eq2.add (Eq2.mul h1 h1 b1 (Bd.const c)) (Eq2.neg (Eq2.mul h2 h2 b2 (Bd.const s)))).of (fun _ _ => by grind) fun _ _ => by grind
  · refine Eq2.trans (Eq2.Si_add x x) ?_
    exact (Eq2.add (Eq2.mul h2 h1 b1 (Bd.const s)) (Eq2.mul h1 h2 b2 (Bd.const c))).of (fun _ _ => rfl) fun _ _ => by grind
/-- the double of an arctangent -/
theorem At_dbl {T : Rat} (hT : 0 ≤ T) (h4 : T ≤ 1 / 4) : Eq2 (fun m n => Co (At T m + At T m) n) (fun _ _ => (1 - T * T) / (1 + T * T)) ∧ Eq2 (fun m n => Si (At T m + At T m) n) fun _ _ => 2 * T / (1 + T * T) := by
  have hb := fun m => At_small hT (by grind) m
  have b1 := Bd.tri wc (fun k => (w_ab k).1) (X := 2 * T) (by grind) hb
  have b2 := Bd.tri vs (fun k => (w_ab k).2) (X := 2 * T) (by grind) hb
  have ht := At_tan hT h4
  have hTT := mul_nn hT hT
  -- the cosine's square
  have hp := Eq2.pyth (At T)
  have hss := Eq2.mul ht ht b2 (Bd.mul (Bd.const T) b1)
  have hcs := Eq2.mul ht (Eq2.refl fun m n => Co (At T m) n) b1 (Bd.mul (Bd.const T) b1)
  have hcc : Eq2 (fun m n => Co (At T m) n * Co (At T m) n) fun _ _ => 1 / (1 + T * T) := by
    have h1 : Eq2 (fun m n => (1 + T * T) * (Co (At T m) n * Co (At T m) n)) fun _ _ => 1 :=
      Eq2.trans (Eq2.symm ((Eq2.add (Eq2.refl fun m n => Co (At T m) n * Co (At T m) n) hss).of (fun _ _ => rfl) fun _ _ => by grind)) hp
    exact (Eq2.mul (Eq2.refl fun _ _ => 1 / (1 + T * T)) h1 (Bd.mul (Bd.const _) (Bd.mul b1 b1)) (Bd.const _)).of (fun _ _ => by grind) fun _ _ => by grind
  have k := Bd.const (T * T)
  constructor
  · refine Eq2.trans (Eq2.Co_add (At T) (At T)) ?_
    have h1 := Eq2.add hcc (Eq2.neg hss)
    have h2 := Eq2.mul (Eq2.refl fun _ _ => T * T) hcc (Bd.mul b1 b1) k
    refine Eq2.trans (h1.of (fun _ _ => by show _ = Co (At T _) _ * Co (At T _) _ + -(Si (At T _) _ * Si (At T _) _); grind) fun _ _ => rfl) ?_
    exact (Eq2.add (Eq2.refl fun _ _ => 1 / (1 + T * T)) (Eq2.neg h2)).of (fun _ _ => by grind) fun _ _ => by grind
  · refine Eq2.trans (Eq2.Si_add (At T) (At T)) ?_
    have h2 := Eq2.mul (Eq2.refl fun _ _ => T + T) hcc (Bd.mul b1 b1) (Bd.const (T + T))
    refine Eq2.trans ((Eq2.add hcs hcs).of (fun _ _ => by grind) fun _ _ => rfl) ?_
    exact h2.of (fun _ _ => by grind) fun _ _ => by grind
/-- a quarter turn, by Machin's formula -/
def qt (m : Nat) : Rat := 8 * At (1 / 5) m - 2 * At (1 / 239) m
theorem qt_ok : Eq2 (fun m n => Co (qt m) n) (fun _ _ => 0) ∧ Eq2 (fun m n => Si (qt m) n) fun _ _ => 1 := by
  obtain ⟨a1, a2⟩ := At_dbl (T := 1 / 5) (by grind) (by grind)
  obtain ⟨a3, a4⟩ := Eq2.dbl a1 a2
  obtain ⟨a5, a6⟩ := Eq2.dbl a3 a4
  obtain ⟨b1, b2⟩ := At_dbl (T := 1 / 239) (by grind) (by grind)
  obtain ⟨x, hx⟩ : ∃ x : Nat → Rat, x = fun m => At (1 / 5) m + At (1 / 5) m + (At (1 / 5) m + At (1 / 5) m) + (At (1 / 5) m + At (1 / 5) m + (At (1 / 5) m + At (1 / 5) m)) := ⟨_, rfl⟩
  obtain ⟨y, hy⟩ : ∃ y : Nat → Rat, y = fun m => - (At (1 / 239) m + At (1 / 239) m) := ⟨_, rfl⟩
  have c1 : Eq2 (fun m n => Co (x m) n) fun _ _ => -239 / 28561 := a5.of (fun _ _ => by rw [hx]) fun _ _ => by decide +kernel
  have c2 : Eq2 (fun m n => Si (x m) n) fun _ _ => 28560 / 28561 := a6.of (fun _ _ => by rw [hx]) fun _ _ => by decide +kernel
  have c3 : Eq2 (fun m n => Co (y m) n) fun _ _ => 28560 / 28561 := b1.of (fun _ _ => by rw [hy, Co_neg]) fun _ _ => by decide +kernel
  have c4 : Eq2 (fun m n => Si (y m) n) fun _ _ => -239 / 28561 := (Eq2.neg b2).of (fun _ _ => by rw [hy, Si_neg]) fun _ _ => by decide +kernel
  have e : ∀ m, qt m = x m + y m := fun m => by rw [hx, hy]; unfold qt; grind
  have d1 := Bd.of_eq c1 (Bd.const _); have d2 := Bd.of_eq c2 (Bd.const _); have d3 := Bd.of_eq c3 (Bd.const _); have d4 := Bd.of_eq c4 (Bd.const _)
  constructor
  · refine Eq2.trans ((Eq2.Co_add x y).of (fun _ _ => by rw [e]) fun _ _ => rfl) ?_
    exact (Eq2.add (Eq2.mul c1 c3 d3 (Bd.const _)) (Eq2.neg (Eq2.mul c2 c4 d4 (Bd.const _)))).of (fun _ _ => by grind) fun _ _ => by decide +kernel
  · refine Eq2.trans ((Eq2.Si_add x y).of (fun _ _ => by rw [e]) fun _ _ => rfl) ?_
    exact (Eq2.add (Eq2.mul c2 c3 d3 (Bd.const _)) (Eq2.mul c1 c4 d4 (Bd.const _))).of (fun _ _ => rfl) fun _ _ => by decide +kernel
end Go.An
/- The remainder of an angle, monotony, quadrants: plain mathematics. -/
namespace Go.An
/-- bounds of a sine, of a cosine -/
def SinB (x a b : Rat) : Prop := Le2 (fun _ _ => a) (fun _ n => Si x n) ∧ Le2 (fun _ n => Si x n) fun _ _ => b
def CosB (x a b : Rat) : Prop := Le2 (fun _ _ => a) (fun _ n => Co x n) ∧ Le2 (fun _ n => Co x n) fun _ _ => b
theorem SinB.mono {x a b a' b' : Rat} (h : SinB x a b) (ha : a' ≤ a) (hb : b ≤ b') : SinB x a' b' :=
  ⟨Le2.trans (Le2.of (Ev.all fun _ _ => ha)) h.1, Le2.trans h.2 (Le2.of (Ev.all fun _ _ => hb))⟩
theorem CosB.mono {x a b a' b' : Rat} (h : CosB x a b) (ha : a' ≤ a) (hb : b ≤ b') : CosB x a' b' :=
  ⟨Le2.trans (Le2.of (Ev.all fun _ _ => ha)) h.1, Le2.trans h.2 (Le2.of (Ev.all fun _ _ => hb))⟩
def clamp (a b x : Rat) : Rat := if x < a then a else if b < x then b else x
theorem clamp_in {a b : Rat} (h : a ≤ b) (x : Rat) : a ≤ clamp a b x ∧ clamp a b x ≤ b := by
  unfold clamp; split
  · grind
  · split <;> grind
theorem Eq2.clamp {s : Nat → Nat → Rat} {a b : Rat} (h1 : Le2 (fun _ _ => a) s) (h2 : Le2 s fun _ _ => b) : Eq2 s fun m n => clamp a b (s m n) := fun e he =>
  ((h1 e he).and (h2 e he)).mono fun m n h => by
    obtain ⟨g1, g2⟩ := h
    show ab (s m n - Go.An.clamp a b (s m n)) ≤ e
    unfold Go.An.clamp
    split
    · exact ab_le (by grind) (by grind)
    · split
      · exact ab_le (by grind) (by grind)
      · exact ab_le (by grind) (by grind)
theorem corner {a b c d l s t : Rat} (h1 : l ≤ a * c) (h2 : l ≤ a * d) (h3 : l ≤ b * c) (h4 : l ≤ b * d) (ha : a ≤ s) (hb : s ≤ b) (hc : c ≤ t) (hd : t ≤ d) : l ≤ s * t := by
  have k : ∀ y, l ≤ a * y → l ≤ b * y → l ≤ s * y := fun y g1 g2 => by
    rcases (Rat.le_total : 0 ≤ y ∨ y ≤ 0) with h | h
    · have := mul_nn (show 0 ≤ s - a by grind) h; grind
    · have := mul_nn (show 0 ≤ b - s by grind) (show 0 ≤ -y by grind); grind
  have kc := k c h1 h3
  have kd := k d h2 h4
  rcases (Rat.le_total : 0 ≤ s ∨ s ≤ 0) with h | h
  · have := mul_nn h (show 0 ≤ t - c by grind); grind
  · have := mul_nn (show 0 ≤ -s by grind) (show 0 ≤ d - t by grind); grind
theorem corner' {a b c d u s t : Rat} (h1 : a * c ≤ u) (h2 : a * d ≤ u) (h3 : b * c ≤ u) (h4 : b * d ≤ u) (ha : a ≤ s) (hb : s ≤ b) (hc : c ≤ t) (hd : t ≤ d) : s * t ≤ u := by
  have := corner (l := -u) (a := -b) (b := -a) (c := c) (d := d) (s := -s) (t := t) (by grind) (by grind) (by grind) (by grind) (by grind) (by grind) hc hd
  grind
theorem Bd.pyth (x : Nat → Rat) : Bd (fun m n => Co (x m) n) ∧ Bd fun m n => Si (x m) n := by
  have h := (Eq2.pyth x) 1 (by grind)
  have k : ∀ u v : Rat, ab (u * u + v * v - 1) ≤ 1 → ab u ≤ 2 := fun u v g => by
    have g2 := le_ab (u * u + v * v - 1)
    have e1 : u * u = ab u * ab u := by
      rcases (Rat.le_total : 0 ≤ u ∨ u ≤ 0) with q | q
      · rw [ab_of q]
      · rw [ab_np q]; grind
    have e2 : 0 ≤ v * v := by
      rcases (Rat.le_total : 0 ≤ v ∨ v ≤ 0) with q | q
      · exact mul_nn q q
      · have := mul_nn (show 0 ≤ -v by grind) (show 0 ≤ -v by grind); grind
    rcases (Rat.le_total : ab u ≤ 2 ∨ 2 ≤ ab u) with q | q
    · exact q
    · have := mul_mono (show (0 : Rat) ≤ 2 by grind) q (show (0 : Rat) ≤ 2 by grind) q
      grind
  exact ⟨⟨2, h.mono fun m n g => k _ _ g⟩, ⟨2, h.mono fun m n g => k _ (Co (x m) n) (by
    show ab (Si (x m) n * Si (x m) n + Co (x m) n * Co (x m) n - 1) ≤ 1
    rw [show Si (x m) n * Si (x m) n + Co (x m) n * Co (x m) n - 1 = Co (x m) n * Co (x m) n + Si (x m) n * Si (x m) n - 1 by grind]; exact g)⟩⟩
/-- sines of double angles -/
theorem sin_dbl {x a b c d e f l u : Rat} (h1 : SinB x a b) (h2 : CosB x c d) (h3 : SinB (x + x) e f) (l1 : l ≤ a * c) (l2 : l ≤ a * d) (l3 : l ≤ b * c) (l4 : l ≤ b * d)
    (u1 : a * c ≤ u) (u2 : a * d ≤ u) (u3 : b * c ≤ u) (u4 : b * d ≤ u) : 2 * l ≤ f ∧ e ≤ 2 * u := by
  have hab : a ≤ b := Le2.const (Le2.trans h1.1 h1.2)
  have hcd : c ≤ d := Le2.const (Le2.trans h2.1 h2.2)
  obtain ⟨b1, b2⟩ := Bd.pyth fun _ => x
  have q1 := Eq2.clamp h1.1 h1.2
  have q2 := Eq2.clamp h2.1 h2.2
  have q3 := Eq2.mul q1 q2 b1 (Bd.of_eq (Eq2.symm q1) b2)
  have q4 : Eq2 (fun _ n => Si (x + x) n) fun m n => 2 * (clamp a b (Si x n) * clamp c d (Co x n)) := by
    refine Eq2.trans (Eq2.Si_add (fun _ => x) fun _ => x) ?_
    exact (Eq2.add q3 q3).of (fun _ _ => by grind) fun _ _ => by grind
  have i1 := fun n => clamp_in hab (Si x n)
  have i2 := fun n => clamp_in hcd (Co x n)
  constructor
  · exact Le2.const (Le2.trans (Le2.of (Ev.all fun m n => by
      have := corner l1 l2 l3 l4 (i1 n).1 (i1 n).2 (i2 n).1 (i2 n).2
      show 2 * l ≤ 2 * (clamp a b (Si x n) * clamp c d (Co x n)); grind)) (Le2.trans (Eq2.symm q4).le h3.2))
  · exact Le2.const (Le2.trans h3.1 (Le2.trans q4.le (Le2.of (Ev.all fun m n => by
      have := corner' u1 u2 u3 u4 (i1 n).1 (i1 n).2 (i2 n).1 (i2 n).2
      show 2 * (clamp a b (Si x n) * clamp c d (Co x n)) ≤ 2 * u; grind))))
/-- a quarter turn more -/
theorem turn_one (x : Nat → Rat) : Eq2 (fun m n => Co (x m + qt m) n) (fun m n => - Si (x m) n) ∧ Eq2 (fun m n => Si (x m + qt m) n) fun m n => Co (x m) n := by
  obtain ⟨b1, b2⟩ := Bd.pyth x
  obtain ⟨c1, c2⟩ := Bd.pyth qt
  obtain ⟨q1, q2⟩ := qt_ok
  constructor
  · refine Eq2.trans (Eq2.Co_add x qt) ?_
    exact (Eq2.add (Eq2.mul (Eq2.refl fun m n => Co (x m) n) q1 c1 b1) (Eq2.neg (Eq2.mul (Eq2.refl fun m n => Si (x m) n) q2 c2 b2))).of (fun _ _ => by grind) fun _ _ => by grind
  · refine Eq2.trans (Eq2.Si_add x qt) ?_
    exact (Eq2.add (Eq2.mul (Eq2.refl fun m n => Si (x m) n) q1 c1 b2) (Eq2.mul (Eq2.refl fun m n => Co (x m) n) q2 c2 b1)).of (fun _ _ => rfl) fun _ _ => by grind
/-- cosine and sine behind k quarter turns, by those of the remainder -/
def qC (k : Nat) (c s : Rat) : Rat := if k % 4 = 0 then c else if k % 4 = 1 then -s else if k % 4 = 2 then -c else s
def qS (k : Nat) (c s : Rat) : Rat := if k % 4 = 0 then s else if k % 4 = 1 then c else if k % 4 = 2 then -s else -c
theorem q_next (k : Nat) (c s : Rat) : qC (k + 1) c s = - qS k c s ∧ qS (k + 1) c s = qC k c s := by
  unfold qC qS
  have : k % 4 = 0 ∨ k % 4 = 1 ∨ k % 4 = 2 ∨ k % 4 = 3 := by omega
  rcases this with h | h | h | h <;> (simp only [h, show (k + 1) % 4 = (k % 4 + 1) % 4 by omega]; simp)
theorem turns (x : Nat → Rat) : ∀ k : Nat, Eq2 (fun m n => Co (x m + (k : Rat) * qt m) n) (fun m n => qC k (Co (x m) n) (Si (x m) n)) ∧ Eq2 (fun m n => Si (x m + (k : Rat) * qt m) n) fun m n => qS k (Co (x m) n) (Si (x m) n)
  | 0 => by
    have e : ∀ m, x m + ((0 : Nat) : Rat) * qt m = x m := fun m => by rw [show ((0 : Nat) : Rat) = 0 from rfl]; grind
    exact ⟨(Eq2.refl fun m n => Co (x m) n).of (fun m n => by rw [e]) fun _ _ => rfl, (Eq2.refl fun m n => Si (x m) n).of (fun m n => by rw [e]) fun _ _ => rfl⟩
  | k + 1 => by
    obtain ⟨h1, h2⟩ := turns x k
    obtain ⟨g1, g2⟩ := turn_one fun m => x m + (k : Rat) * qt m
    have e : ∀ m, x m + ((k + 1 : Nat) : Rat) * qt m = x m + (k : Rat) * qt m + qt m := fun m => by
      have : ((k + 1 : Nat) : Rat) = (k : Rat) + 1 := by grind
      rw [this]; grind
    exact ⟨(Eq2.trans g1 (Eq2.neg h2)).of (fun m n => by rw [e]) fun m n => by rw [(q_next k _ _).1], (Eq2.trans g2 h1).of (fun m n => by rw [e]) fun m n => by rw [(q_next k _ _).2]⟩
/-- the alternating series by nested products: g = 0 the cosine, g = 1 the sine's quotient -/
def wn (s : Rat) (g : Nat) : Nat → Nat → Rat
  | _, 0 => 0
  | i, n + 1 => 1 - s / (((2 * i + g + 1) * (2 * i + g + 2) : Nat) : Rat) * wn s g (i + 1) n
theorem d_ge (i g : Nat) : (2 : Rat) ≤ (((2 * i + g + 1) * (2 * i + g + 2) : Nat) : Rat) := by
  have : 2 ≤ (2 * i + g + 1) * (2 * i + g + 2) := Nat.le_trans (show 2 ≤ 1 * 2 by omega) (Nat.mul_le_mul (by omega) (by omega))
  exact Rat.natCast_le_natCast.2 this
theorem wn_in {s : Rat} (h0 : 0 ≤ s) (h1 : s ≤ 1) (g : Nat) : ∀ n i, 0 ≤ wn s g i n ∧ wn s g i n ≤ 1
  | 0, i => by rw [wn]; grind
  | n + 1, i => by
    obtain ⟨a, b⟩ := wn_in h0 h1 g n (i + 1)
    have hd := d_ge i g
    have q : s / (((2 * i + g + 1) * (2 * i + g + 2) : Nat) : Rat) ≤ 1 := div_le (by grind) (by grind)
    have q0 := div_nn h0 (show 0 < (((2 * i + g + 1) * (2 * i + g + 2) : Nat) : Rat) by grind)
    have h2 := mul_nn q0 a
    have h3 := mul_mono q0 q a b
    rw [wn]; grind
theorem tx_two (x : Rat) (j : Nat) : tx x (j + 2) = tx x j * (x * x / (((j + 1) * (j + 2) : Nat) : Rat)) := by
  have h1 := cast_pos j
  have h2 := cast_pos (j + 1)
  rw [tx, tx, Rat.natCast_mul]
  grind
theorem wn_su (x : Rat) (g : Nat) : ∀ n i, su (fun j => (-1) ^ j * tx x (2 * (i + j) + g)) n = tx x (2 * i + g) * wn (x * x) g i n
  | 0, i => by rw [wn, Rat.mul_zero]; rfl
  | n + 1, i => by
    rw [su_head, wn, su_congr (g := fun j => -1 * ((-1) ^ j * tx x (2 * (i + 1 + j) + g))) fun j _ => by rw [show i + (j + 1) = i + 1 + j by omega, Rat.pow_succ]; grind, su_mul, wn_su x g n (i + 1), show 2 * (i + 1) + g = 2 * i + g + 2 by omega, tx_two, Rat.pow_zero, Nat.add_zero]
    grind
theorem w_even : ∀ n : Nat, wc (2 * n) = (-1) ^ n ∧ wc (2 * n + 1) = 0 ∧ vs (2 * n) = 0 ∧ vs (2 * n + 1) = (-1) ^ n
  | 0 => by rw [Rat.pow_zero]; exact ⟨rfl, rfl, rfl, rfl⟩
  | n + 1 => by
    obtain ⟨h1, h2, h3, h4⟩ := w_even n
    have e1 : wc (2 * (n + 1)) = - wc (2 * n) := rfl
    have e2 : wc (2 * (n + 1) + 1) = - wc (2 * n + 1) := rfl
    have e3 : vs (2 * (n + 1)) = - vs (2 * n) := rfl
    have e4 : vs (2 * (n + 1) + 1) = - vs (2 * n + 1) := rfl
    rw [e1, e2, e3, e4, h1, h2, h3, h4, Rat.pow_succ]; grind
theorem Co_su (x : Rat) : ∀ n, Co x (2 * n) = su (fun j => (-1) ^ j * tx x (2 * (0 + j) + 0)) n ∧ Co x (2 * n + 1) = su (fun j => (-1) ^ j * tx x (2 * (0 + j) + 0)) (n + 1)
  | 0 => by unfold Co su; exact ⟨rfl, by unfold su; rw [Rat.pow_zero]; show _ = 0 + 1 * tx x 0; unfold wc; grind⟩
  | n + 1 => by
    obtain ⟨h1, h2⟩ := Co_su x n
    obtain ⟨w1, w2, -, -⟩ := w_even n
    obtain ⟨w3, -, -, -⟩ := w_even (n + 1)
    have e1 : Co x (2 * (n + 1)) = Co x (2 * n + 1) + wc (2 * n + 1) * tx x (2 * n + 1) := rfl
    have e2 : Co x (2 * (n + 1) + 1) = Co x (2 * (n + 1)) + wc (2 * (n + 1)) * tx x (2 * (n + 1)) := rfl
    have e3 : Co x (2 * (n + 1)) = su (fun j => (-1) ^ j * tx x (2 * (0 + j) + 0)) (n + 1) := by rw [e1, h2, w2]; grind
    exact ⟨e3, by rw [e2, e3, su.eq_2 _ (n + 1), w3]; show _ = _ + (-1) ^ (n + 1) * tx x (2 * (0 + (n + 1)) + 0); rw [Nat.zero_add]; rfl⟩
theorem Si_su (x : Rat) : ∀ n, Si x (2 * n) = su (fun j => (-1) ^ j * tx x (2 * (0 + j) + 1)) n ∧ Si x (2 * n + 1) = su (fun j => (-1) ^ j * tx x (2 * (0 + j) + 1)) n
  | 0 => by unfold Si su; exact ⟨rfl, by unfold su; show 0 + vs 0 * tx x 0 = 0; unfold vs; grind⟩
  | n + 1 => by
    obtain ⟨h1, h2⟩ := Si_su x n
    obtain ⟨-, -, -, w4⟩ := w_even n
    obtain ⟨-, -, w3, -⟩ := w_even (n + 1)
    have e1 : Si x (2 * (n + 1)) = Si x (2 * n + 1) + vs (2 * n + 1) * tx x (2 * n + 1) := rfl
    have e2 : Si x (2 * (n + 1) + 1) = Si x (2 * (n + 1)) + vs (2 * (n + 1)) * tx x (2 * (n + 1)) := rfl
    have e3 : Si x (2 * (n + 1)) = su (fun j => (-1) ^ j * tx x (2 * (0 + j) + 1)) (n + 1) := by rw [e1, h2, w4, su.eq_2]; rw [Nat.zero_add]
    exact ⟨e3, by rw [e2, w3, e3]; grind⟩
theorem Co_wn (x : Rat) (n : Nat) : Co x n = wn (x * x) 0 0 ((n + 1) / 2) := by
  have e := fun k => wn_su x 0 k 0
  rw [show tx x (2 * 0 + 0) = 1 from rfl] at e
  obtain ⟨h1, h2⟩ := Co_su x (n / 2)
  rcases Nat.mod_two_eq_zero_or_one n with h | h
  · rw [show n = 2 * (n / 2) by omega, h1, e, show (2 * (n / 2) + 1) / 2 = n / 2 by omega]; grind
  · rw [show n = 2 * (n / 2) + 1 by omega, h2, e, show (2 * (n / 2) + 1 + 1) / 2 = n / 2 + 1 by omega]; grind
theorem Si_wn (x : Rat) (n : Nat) : Si x n = x * wn (x * x) 1 0 (n / 2) := by
  have e := fun k => wn_su x 1 k 0
  rw [show tx x (2 * 0 + 1) = x by unfold tx; unfold tx; rw [show ((0 + 1 : Nat) : Rat) = 1 from rfl]; grind] at e
  obtain ⟨h1, h2⟩ := Si_su x (n / 2)
  rcases Nat.mod_two_eq_zero_or_one n with h | h
  · rw [show n = 2 * (n / 2) by omega, h1, e, show 2 * (n / 2) / 2 = n / 2 by omega]
  · rw [show n = 2 * (n / 2) + 1 by omega, h2, e, show (2 * (n / 2) + 1) / 2 = n / 2 by omega]
/-- s times the nested series grows, by no more than s -/
theorem phi {s t : Rat} (h0 : 0 ≤ s) (hst : s ≤ t) (h1 : t ≤ 1) (g : Nat) : ∀ n i, 0 ≤ t * wn t g i n - s * wn s g i n ∧ t * wn t g i n - s * wn s g i n ≤ t - s
  | 0, i => by rw [wn, wn]; grind
  | n + 1, i => by
    obtain ⟨a, b⟩ := phi h0 hst h1 g n (i + 1)
    obtain ⟨c1, c2⟩ := wn_in h0 (by grind) g n (i + 1)
    have hd := d_ge i g
    rw [wn, wn]
    obtain ⟨D, hD⟩ : ∃ D, D = (((2 * i + g + 1) * (2 * i + g + 2) : Nat) : Rat) := ⟨_, rfl⟩
    rw [← hD] at hd ⊢
    obtain ⟨p, hp⟩ : ∃ p, p = s * wn s g (i + 1) n := ⟨_, rfl⟩
    obtain ⟨q, hq⟩ : ∃ q, q = t * wn t g (i + 1) n := ⟨_, rfl⟩
    rw [← hp, ← hq] at a b
    have hp0 : 0 ≤ p := by rw [hp]; exact mul_nn h0 c1
    have hp1 : p ≤ 1 := by
      have := mul_mono h0 (show s ≤ 1 by grind) c1 c2; grind
    have e : t * (1 - t / D * wn t g (i + 1) n) - s * (1 - s / D * wn s g (i + 1) n) = (t - s) - (t * (q - p) + (t - s) * p) / D := by rw [hp, hq]; grind
    rw [e]
    have k1 := mul_nn (show 0 ≤ t by grind) (show 0 ≤ q - p by grind)
    have k2 := mul_nn (show 0 ≤ t - s by grind) hp0
    have k3 := mul_mono (show 0 ≤ t by grind) h1 (show 0 ≤ q - p by grind) b
    have k4 := mul_mono (show 0 ≤ t - s by grind) Rat.le_refl hp0 hp1
    have k5 := div_nn (show 0 ≤ t * (q - p) + (t - s) * p by grind) (show 0 < D by grind)
    have k6 : (t * (q - p) + (t - s) * p) / D ≤ t - s := div_le (by grind) (by
      have := mul_nn (show 0 ≤ t - s by grind) (show 0 ≤ D - 2 by grind)
      grind)
    grind
theorem Co_mono {a b : Rat} (ha : 0 ≤ a) (hab : a ≤ b) (hb : b ≤ 1) (n : Nat) : Co b n ≤ Co a n := by
  rw [Co_wn, Co_wn]
  have h0 := mul_nn ha ha
  have h1 := mul_mono ha hab ha hab
  have h2 := mul_mono (show 0 ≤ b by grind) hb (show 0 ≤ b by grind) hb
  cases (n + 1) / 2 with
  | zero => rw [wn, wn]; exact Rat.le_refl
  | succ k =>
    have := (phi h0 h1 (by grind) 0 k 1).1
    have hd := d_ge 0 0
    rw [wn, wn]
    obtain ⟨D, hD⟩ : ∃ D, D = (((2 * 0 + 0 + 1) * (2 * 0 + 0 + 2) : Nat) : Rat) := ⟨_, rfl⟩
    rw [← hD] at hd ⊢
    have k5 := div_nn this (show 0 < D by grind)
    grind
theorem Si_mono_nn {a b : Rat} (ha : 0 ≤ a) (hab : a ≤ b) (hb : b ≤ 1) (n : Nat) : Si a n ≤ Si b n := by
  rw [Si_wn, Si_wn]
  have h0 := mul_nn ha ha
  have h1 := mul_mono ha hab ha hab
  have h2 := mul_mono (show 0 ≤ b by grind) hb (show 0 ≤ b by grind) hb
  cases n / 2 with
  | zero => rw [wn, wn]; grind
  | succ k =>
    obtain ⟨f1, f2⟩ := phi h0 h1 (by grind) 1 k 1
    obtain ⟨c1, c2⟩ := wn_in h0 (show a * a ≤ 1 by grind) 1 k 1
    rw [wn, wn]
    have hD : (((2 * 0 + 1 + 1) * (2 * 0 + 1 + 2) : Nat) : Rat) = 6 := rfl
    rw [hD]
    obtain ⟨p, hp⟩ : ∃ p, p = a * a * wn (a * a) 1 (0 + 1) k := ⟨_, rfl⟩
    obtain ⟨q, hq⟩ : ∃ q, q = b * b * wn (b * b) 1 (0 + 1) k := ⟨_, rfl⟩
    rw [show (1 : Nat) = 0 + 1 from rfl, ← hp, ← hq] at f1 f2
    have hp0 : 0 ≤ p := by rw [hp]; exact mul_nn h0 c1
    have hp1 : p ≤ 1 := by
      have := mul_mono h0 (show a * a ≤ 1 by grind) c1 c2; rw [hp]; grind
    have e : b * (1 - b * b / 6 * wn (b * b) 1 (0 + 1) k) - a * (1 - a * a / 6 * wn (a * a) 1 (0 + 1) k) = (b - a) - (b * (q - p) + (b - a) * p) / 6 := by rw [hp, hq]; grind
    have k3 := mul_mono (show 0 ≤ b by grind) hb (show 0 ≤ q - p by grind) f2
    have k4 := mul_mono (show 0 ≤ b - a by grind) Rat.le_refl hp0 hp1
    have k5 := mul_mono (show 0 ≤ b - a by grind) Rat.le_refl (show 0 ≤ b + a by grind) (show b + a ≤ 2 by grind)
    grind
theorem Si_nn {a : Rat} (ha : 0 ≤ a) (h1 : a ≤ 1) (n : Nat) : 0 ≤ Si a n := by
  rw [Si_wn]
  have h2 := mul_mono ha h1 ha h1
  exact mul_nn ha (wn_in (mul_nn ha ha) (by grind) 1 _ 0).1
theorem Si_mono {a b : Rat} (ha : -1 ≤ a) (hab : a ≤ b) (hb : b ≤ 1) (n : Nat) : Si a n ≤ Si b n := by
  rcases (Rat.le_total : 0 ≤ a ∨ a ≤ 0) with h | h
  · exact Si_mono_nn h hab hb n
  · have e1 : Si a n = - Si (-a) n := by have := Si_neg a n; grind
    rcases (Rat.le_total : 0 ≤ b ∨ b ≤ 0) with q | q
    · have h1 := Si_nn (a := -a) (by grind) (by grind) n
      have h2 := Si_nn q hb n
      grind
    · have e2 : Si b n = - Si (-b) n := by have := Si_neg b n; grind
      have := Si_mono_nn (a := -b) (b := -a) (by grind) (by grind) (by grind) n
      grind
theorem Co_ab (x : Rat) (n : Nat) : Co (ab x) n = Co x n := by
  unfold ab; split
  · exact Co_neg x n
  · rfl
end Go.An
/- The program's waves, as whole numbers, bound sine and cosine: plain mathematics. -/
namespace Go.An
theorem sub_le_of {a b : Nat} {A B x : Rat} (ha : (a : Rat) = A) (hb : B ≤ (b : Rat)) (hx : 0 ≤ x) (h : A - B ≤ x) : ((a - b : Nat) : Rat) ≤ x := by
  rcases Nat.le_total b a with q | q
  · have : ((a - b : Nat) : Rat) + (b : Rat) = (a : Rat) := by rw [← Rat.natCast_add]; congr 1; omega
    grind
  · rw [Nat.sub_eq_zero_of_le q]; exact hx
theorem le_sub_of {a b : Nat} {A B x : Rat} (ha : (a : Rat) = A) (hb : (b : Rat) ≤ B) (h : x ≤ A - B) : x ≤ ((a - b : Nat) : Rat) := by
  have h1 : ((a : Nat) : Rat) ≤ ((a - b + b : Nat) : Rat) := Rat.natCast_le_natCast.2 (by omega)
  rw [Rat.natCast_add] at h1
  grind
/-- the waves of sine and cosine, as multiples of 2^-w, step by step -/
def wvP (sl sh w g : Nat) : Nat → Nat × Nat
  | 0 => (0, 2 ^ w)
  | k + 1 => ((2 ^ (2 * w) * ((2 * (23 - k) + g + 1) * (2 * (23 - k) + g + 2)) - sh * (wvP sl sh w g k).2) / ((2 * (23 - k) + g + 1) * (2 * (23 - k) + g + 2) * 2 ^ w),
     cd (2 ^ (2 * w) * ((2 * (23 - k) + g + 1) * (2 * (23 - k) + g + 2)) - sl * (wvP sl sh w g k).1) ((2 * (23 - k) + g + 1) * (2 * (23 - k) + g + 2) * 2 ^ w))
/-- the waves at y, a multiple of 2^-w -/
def wvA (y w g : Nat) : Nat × Nat := wvP (y * y / 2 ^ w) (cd (y * y) (2 ^ w)) w g 24
theorem wvP_ok {U s : Rat} {sl sh w g : Nat} (hU : U = ((2 ^ w : Nat) : Rat)) (h0 : 0 ≤ s) (h1 : s ≤ 1) (hl : (sl : Rat) ≤ U * s) (hh : U * s ≤ (sh : Rat)) :
    ∀ k, k ≤ 24 → ∀ n, ((wvP sl sh w g k).1 : Rat) ≤ U * wn s g (24 - k) (n + k) ∧ U * wn s g (24 - k) (n + k) ≤ ((wvP sl sh w g k).2 : Rat)
  | 0, _, n => by
    have hp : 0 < U := by rw [hU]; exact two_pos w
    obtain ⟨a, b⟩ := wn_in h0 h1 g (n + 0) (24 - 0)
    have h2 := mul_nn (Rat.le_of_lt hp) a
    have h3 := mul_mono (Rat.le_of_lt hp) Rat.le_refl a b
    constructor
    · exact h2
    · show _ ≤ ((2 ^ w : Nat) : Rat)
      rw [← hU]; grind
  | k + 1, hk, n => by
    have hp : 0 < U := by rw [hU]; exact two_pos w
    obtain ⟨i1, i2⟩ := wvP_ok (g := g) hU h0 h1 hl hh k (by omega) n
    obtain ⟨i, hi⟩ : ∃ i, i = 23 - k := ⟨_, rfl⟩
    rw [show 24 - k = i + 1 by omega] at i1 i2
    rw [wvP, show 24 - (k + 1) = i by omega, ← hi, show n + (k + 1) = n + k + 1 by omega, wn]
    obtain ⟨c1, c2⟩ := wn_in h0 h1 g (n + k) (i + 1)
    obtain ⟨W, hW⟩ : ∃ W, W = wn s g (i + 1) (n + k) := ⟨_, rfl⟩
    obtain ⟨lo, hlo⟩ : ∃ l, l = (wvP sl sh w g k).1 := ⟨_, rfl⟩
    obtain ⟨hi', hhi⟩ : ∃ l, l = (wvP sl sh w g k).2 := ⟨_, rfl⟩
    rw [← hW] at i1 i2 c1 c2; rw [← hW]
    rw [← hlo] at i1; rw [← hhi] at i2; rw [← hlo, ← hhi]
    have hd2 := d_ge i g
    obtain ⟨d, hd⟩ : ∃ d, d = (2 * i + g + 1) * (2 * i + g + 2) := ⟨_, rfl⟩
    rw [← hd] at hd2 ⊢
    have hd0 : 0 < d := by rw [hd]; exact Nat.mul_pos (by omega) (by omega)
    obtain ⟨D, hD⟩ : ∃ D, D = (d : Rat) := ⟨_, rfl⟩
    rw [← hD] at hd2 ⊢
    have e1 : ((2 ^ (2 * w) * d : Nat) : Rat) = U * U * D := by rw [Rat.natCast_mul, sq_w, ← hU, ← hD]
    have e2 : ((d * 2 ^ w : Nat) : Rat) = D * U := by rw [Rat.natCast_mul, ← hU, ← hD]
    have hDU : 0 < D * U := pos_mul (by grind) hp
    have hsW0 := mul_nn h0 c1
    have hsW1 := mul_mono h0 h1 c1 c2
    have hpos : 0 < d * 2 ^ w := Nat.mul_pos hd0 (Nat.two_pow_pos w)
    constructor
    · have h3 := mul_mono (mul_nn (Rat.le_of_lt hp) h0) hh (mul_nn (Rat.le_of_lt hp) c1) i2
      have hx : 0 ≤ U * (1 - s / D * W) * (D * U) := by
        rw [show U * (1 - s / D * W) * (D * U) = U * U * (D - s * W) by grind]
        exact mul_nn (mul_nn (Rat.le_of_lt hp) (Rat.le_of_lt hp)) (by grind)
      have h4 := sub_le_of (a := 2 ^ (2 * w) * d) (b := sh * hi') e1 (B := (sh : Rat) * (hi' : Rat)) (by rw [Rat.natCast_mul]; exact Rat.le_refl) hx (by
        rw [show U * (1 - s / D * W) * (D * U) = U * U * D - U * s * (U * W) by grind]; grind)
      have h5 := q_le (Nat.div_mul_le_self (2 ^ (2 * w) * d - sh * hi') (d * 2 ^ w))
      rw [e2] at h5
      exact le_cancel hDU (Rat.le_trans h5 h4)
    · have h3 := mul_mono (cast_nn sl) hl (cast_nn lo) i1
      have h4 := le_sub_of (a := 2 ^ (2 * w) * d) (b := sl * lo) (x := U * (1 - s / D * W) * (D * U)) e1 (B := U * s * (U * W)) (by rw [Rat.natCast_mul]; exact h3) (by
        rw [show U * (1 - s / D * W) * (D * U) = U * U * D - U * s * (U * W) by grind]; exact Rat.le_refl)
      have h5 := q_ge (cd_ge (a := 2 ^ (2 * w) * d - sl * lo) hpos)
      rw [e2] at h5
      exact le_cancel hDU (Rat.le_trans h4 h5)
/-- the squares of a multiple of 2^-w -/
theorem sq_shut {U r : Rat} {y w : Nat} (hU : U = ((2 ^ w : Nat) : Rat)) (hy : (y : Rat) = U * r) (h0 : 0 ≤ r) :
    ((y * y / 2 ^ w : Nat) : Rat) ≤ U * (r * r) ∧ U * (r * r) ≤ ((cd (y * y) (2 ^ w) : Nat) : Rat) := by
  have hp : 0 < U := by rw [hU]; exact two_pos w
  constructor
  · have h1 := q_le (Nat.div_mul_le_self (y * y) (2 ^ w))
    rw [Rat.natCast_mul, ← hU, hy] at h1
    exact le_cancel hp (by grind)
  · have h1 := q_ge (cd_ge (a := y * y) (Nat.two_pow_pos w))
    rw [Rat.natCast_mul, ← hU, hy] at h1
    exact le_cancel hp (by grind)
theorem wvA_ok {U r : Rat} {y w : Nat} (g : Nat) (hU : U = ((2 ^ w : Nat) : Rat)) (hy : (y : Rat) = U * r) (h0 : 0 ≤ r) (h1 : r ≤ 1) {n : Nat} (hn : 24 ≤ n) :
    ((wvA y w g).1 : Rat) ≤ U * wn (r * r) g 0 n ∧ U * wn (r * r) g 0 n ≤ ((wvA y w g).2 : Rat) := by
  obtain ⟨s1, s2⟩ := sq_shut hU hy h0
  obtain ⟨k, rfl⟩ := Nat.le.dest hn
  have := wvP_ok (g := g) hU (mul_nn h0 h0) (by have := mul_mono h0 h1 h0 h1; grind) s1 s2 24 (Nat.le_refl _) k
  rw [show k + 24 = 24 + k by omega] at this
  exact this
/-- cosines between the waves -/
theorem cos_waves {U r : Rat} {y w : Nat} (hU : U = ((2 ^ w : Nat) : Rat)) (hy : (y : Rat) = U * r) (h0 : 0 ≤ r) (h1 : r ≤ 1) {n : Nat} (hn : 50 ≤ n) :
    ((wvA y w 0).1 : Rat) / U ≤ Co r n ∧ Co r n ≤ ((wvA y w 0).2 : Rat) / U := by
  have hp : 0 < U := by rw [hU]; exact two_pos w
  obtain ⟨a, b⟩ := wvA_ok 0 hU hy h0 h1 (n := (n + 1) / 2) (by omega)
  rw [Co_wn]
  exact ⟨div_le hp (by rw [Rat.mul_comm]; exact a), le_div hp (by rw [Rat.mul_comm]; exact b)⟩
/-- sines between the waves -/
theorem sin_waves {U r : Rat} {y w : Nat} (hU : U = ((2 ^ w : Nat) : Rat)) (hy : (y : Rat) = U * r) (h0 : 0 ≤ r) (h1 : r ≤ 1) {n : Nat} (hn : 50 ≤ n) :
    ((y * (wvA y w 1).1 / 2 ^ w : Nat) : Rat) / U ≤ Si r n ∧ Si r n ≤ ((cd (y * (wvA y w 1).2) (2 ^ w) : Nat) : Rat) / U := by
  have hp : 0 < U := by rw [hU]; exact two_pos w
  obtain ⟨a, b⟩ := wvA_ok 1 hU hy h0 h1 (n := n / 2) (by omega)
  rw [Si_wn]
  constructor
  · have h2 := q_le (Nat.div_mul_le_self (y * (wvA y w 1).1) (2 ^ w))
    rw [Rat.natCast_mul, ← hU, hy] at h2
    have h3 := mul_mono (mul_nn (Rat.le_of_lt hp) h0) Rat.le_refl (cast_nn _) a
    refine div_le hp (le_cancel hp (Rat.le_trans h2 (Rat.le_trans h3 ?_)))
    grind
  · have h2 := q_ge (cd_ge (a := y * (wvA y w 1).2) (Nat.two_pow_pos w))
    rw [Rat.natCast_mul, ← hU, hy] at h2
    obtain ⟨c1, c2⟩ := wn_in (mul_nn h0 h0) (show r * r ≤ 1 by have := mul_mono h0 h1 h0 h1; grind) 1 (n / 2) 0
    have h3 := mul_mono (mul_nn (Rat.le_of_lt hp) h0) Rat.le_refl (mul_nn (Rat.le_of_lt hp) c1) b
    refine le_div hp (le_cancel hp (Rat.le_trans ?_ (Rat.le_trans h3 h2)))
    grind
/-- the arctangent's series by nested differences -/
def vt (s : Rat) : Nat → Nat → Rat
  | _, 0 => 0
  | i, n + 1 => 1 / ((2 * i + 1 : Nat) : Rat) - s * vt s (i + 1) n
theorem vt_su (s : Rat) : ∀ n k : Nat, su (fun i => (-1) ^ i * (s ^ i / ((2 * (k + i) + 1 : Nat) : Rat))) n = vt s k n
  | 0, _ => rfl
  | n + 1, k => by
    rw [su_head, vt, ← vt_su s n (k + 1), show ∀ a b c : Rat, a - b * c = a + (-b) * c from fun a b c => by grind, ← su_mul, Rat.pow_zero, Rat.pow_zero, Nat.add_zero]
    congr 1
    · grind
    · exact su_congr fun i _ => by rw [show k + (i + 1) = k + 1 + i by omega, Rat.pow_succ, Rat.pow_succ]; grind
theorem At_vt (t : Rat) (m : Nat) : At t m = t * vt (t * t) 0 m := by
  rw [← vt_su, ← su_mul, At]
  exact su_congr fun i _ => by rw [Nat.zero_add, Rat.pow_succ t, pow_two]; grind
theorem vt_in {s : Rat} (h0 : 0 ≤ s) (h1 : s ≤ 1) : ∀ n i : Nat, 0 ≤ vt s i n ∧ vt s i n ≤ 1 / ((2 * i + 1 : Nat) : Rat)
  | 0, i => by rw [vt]; exact ⟨Rat.le_refl, div_nn (by grind) (odd_pos i)⟩
  | n + 1, i => by
    obtain ⟨a, b⟩ := vt_in h0 h1 n (i + 1)
    have h2 : 1 / ((2 * (i + 1) + 1 : Nat) : Rat) ≤ 1 / ((2 * i + 1 : Nat) : Rat) := div_le (odd_pos _) (by
      have h3 : ((2 * i + 1 : Nat) : Rat) ≤ ((2 * (i + 1) + 1 : Nat) : Rat) := Rat.natCast_le_natCast.2 (by omega)
      rw [show 1 / ((2 * i + 1 : Nat) : Rat) * ((2 * (i + 1) + 1 : Nat) : Rat) = ((2 * (i + 1) + 1 : Nat) : Rat) / ((2 * i + 1 : Nat) : Rat) by grind]
      exact le_div (odd_pos i) (by grind))
    have h3 := mul_nn h0 a
    have h4 := mul_mono h0 h1 a b
    rw [vt]; grind
def atP (sl sh w : Nat) : Nat → Nat × Nat
  | 0 => ((2 ^ w * 81 - sh * 79) / (79 * 81), cd (2 ^ w) 79)
  | k + 1 => ((2 ^ (2 * w) - sh * (atP sl sh w k).2 * (2 * (38 - k) + 1)) / ((2 * (38 - k) + 1) * 2 ^ w),
     cd (2 ^ (2 * w) - sl * (atP sl sh w k).1 * (2 * (38 - k) + 1)) ((2 * (38 - k) + 1) * 2 ^ w))
def atA (al ah w : Nat) : Nat × Nat :=
  (al * (atP (al * al / 2 ^ w) (cd (ah * ah) (2 ^ w)) w 39).1 / 2 ^ w, cd (ah * (atP (al * al / 2 ^ w) (cd (ah * ah) (2 ^ w)) w 39).2) (2 ^ w))
def piA (w : Nat) : Nat × Nat :=
  ((atA (2 ^ w / 5) (cd (2 ^ w) 5) w).1 * 16 - (atA (2 ^ w / 239) (cd (2 ^ w) 239) w).2 * 4,
   (atA (2 ^ w / 5) (cd (2 ^ w) 5) w).2 * 16 - (atA (2 ^ w / 239) (cd (2 ^ w) 239) w).1 * 4)
theorem atP_ok {U s : Rat} {sl sh w : Nat} (hU : U = ((2 ^ w : Nat) : Rat)) (h0 : 0 ≤ s) (h1 : s ≤ 1 / 2) (hl : (sl : Rat) ≤ U * s) (hh : U * s ≤ (sh : Rat)) :
    ∀ k, k ≤ 39 → ∀ n, ((atP sl sh w k).1 : Rat) ≤ U * vt s (39 - k) (n + k + 1) ∧ U * vt s (39 - k) (n + k + 1) ≤ ((atP sl sh w k).2 : Rat)
  | 0, _, n => by
    have hp : 0 < U := by rw [hU]; exact two_pos w
    obtain ⟨a, b⟩ := vt_in h0 (by grind) n (39 + 1)
    obtain ⟨a', b'⟩ := vt_in h0 (by grind) (n + 1) 39
    rw [show ((2 * (39 + 1) + 1 : Nat) : Rat) = 81 from rfl] at b
    rw [show ((2 * 39 + 1 : Nat) : Rat) = 79 from rfl] at b'
    have hU1 : ((2 ^ w * 81 : Nat) : Rat) = U * 81 := by rw [Rat.natCast_mul, ← hU]; rfl
    constructor
    · show (((2 ^ w * 81 - sh * 79) / (79 * 81) : Nat) : Rat) ≤ U * vt s 39 (n + 1)
      have h5 := q_le (Nat.div_mul_le_self (2 ^ w * 81 - sh * 79) (79 * 81))
      rw [show ((79 * 81 : Nat) : Rat) = 6399 from rfl] at h5
      have h6 := mul_mono (mul_nn (Rat.le_of_lt hp) h0) Rat.le_refl a b
      have h4 := sub_le_of (a := 2 ^ w * 81) (b := sh * 79) (x := U * vt s 39 (n + 1) * 6399) hU1 (B := (sh : Rat) * 79) (by rw [Rat.natCast_mul]; exact Rat.le_refl) (mul_nn (mul_nn (Rat.le_of_lt hp) a') (by grind)) (by
        rw [vt, show ((2 * 39 + 1 : Nat) : Rat) = 79 from rfl]; grind)
      exact le_cancel (show (0 : Rat) < 6399 by grind) (Rat.le_trans h5 h4)
    · show U * vt s 39 (n + 1) ≤ ((cd (2 ^ w) 79 : Nat) : Rat)
      have h5 := q_ge (cd_ge (a := 2 ^ w) (d := 79) (by omega))
      rw [← hU, show ((79 : Nat) : Rat) = 79 from rfl] at h5
      have h6 := mul_mono (Rat.le_of_lt hp) Rat.le_refl a' b'
      grind
  | k + 1, hk, n => by
    have hp : 0 < U := by rw [hU]; exact two_pos w
    obtain ⟨i1, i2⟩ := atP_ok hU h0 h1 hl hh k (by omega) n
    obtain ⟨i, hi⟩ : ∃ i, i = 38 - k := ⟨_, rfl⟩
    rw [show 39 - k = i + 1 by omega] at i1 i2
    rw [atP, show 39 - (k + 1) = i by omega, ← hi, show n + (k + 1) + 1 = n + k + 1 + 1 by omega]
    obtain ⟨c1, c2⟩ := vt_in h0 (by grind) (n + k + 1) (i + 1)
    obtain ⟨f1, f2⟩ := vt_in h0 (by grind) (n + k + 1 + 1) i
    rw [vt] at f1 f2 ⊢
    obtain ⟨W, hW⟩ : ∃ W, W = vt s (i + 1) (n + k + 1) := ⟨_, rfl⟩
    obtain ⟨lo, hlo⟩ : ∃ l, l = (atP sl sh w k).1 := ⟨_, rfl⟩
    obtain ⟨hi', hhi⟩ : ∃ l, l = (atP sl sh w k).2 := ⟨_, rfl⟩
    rw [← hW] at i1 i2 c1 c2 f1 f2; rw [← hW]
    rw [← hlo] at i1; rw [← hhi] at i2; rw [← hlo, ← hhi]
    have hd2 := odd_pos i
    obtain ⟨d, hd⟩ : ∃ d, d = 2 * i + 1 := ⟨_, rfl⟩
    rw [← hd] at hd2 f1 ⊢
    obtain ⟨D, hD⟩ : ∃ D, D = (d : Rat) := ⟨_, rfl⟩
    rw [← hD] at hd2 f1 ⊢
    have e1 : ((2 ^ (2 * w) : Nat) : Rat) = U * U := by rw [sq_w, ← hU]
    have e2 : ((d * 2 ^ w : Nat) : Rat) = D * U := by rw [Rat.natCast_mul, ← hU, ← hD]
    have hDU : 0 < D * U := pos_mul hd2 hp
    have hpos : 0 < d * 2 ^ w := Nat.mul_pos (by omega) (Nat.two_pow_pos w)
    have ee : U * (1 / D - s * W) * (D * U) = U * U - U * s * (U * W) * D := by grind
    constructor
    · have h3 := mul_mono (mul_nn (Rat.le_of_lt hp) h0) hh (mul_nn (Rat.le_of_lt hp) c1) i2
      have h3' := mul_mono (mul_nn (mul_nn (Rat.le_of_lt hp) h0) (mul_nn (Rat.le_of_lt hp) c1)) h3 (Rat.le_of_lt hd2) Rat.le_refl
      have h4 := sub_le_of (a := 2 ^ (2 * w)) (b := sh * hi' * d) (x := U * (1 / D - s * W) * (D * U)) e1 (B := (sh : Rat) * (hi' : Rat) * D) (by rw [Rat.natCast_mul, Rat.natCast_mul, ← hD]; exact Rat.le_refl) (mul_nn (mul_nn (Rat.le_of_lt hp) f1) (Rat.le_of_lt hDU)) (by
        rw [ee]; grind)
      have h5 := q_le (Nat.div_mul_le_self (2 ^ (2 * w) - sh * hi' * d) (d * 2 ^ w))
      rw [e2] at h5
      exact le_cancel hDU (Rat.le_trans h5 h4)
    · have h3 := mul_mono (cast_nn sl) hl (cast_nn lo) i1
      have h3' := mul_mono (mul_nn (cast_nn sl) (cast_nn lo)) h3 (Rat.le_of_lt hd2) Rat.le_refl
      have h4 := le_sub_of (a := 2 ^ (2 * w)) (b := sl * lo * d) (x := U * (1 / D - s * W) * (D * U)) e1 (B := U * s * (U * W) * D) (by rw [Rat.natCast_mul, Rat.natCast_mul, ← hD]; exact h3') (by
        rw [ee]; exact Rat.le_refl)
      have h5 := q_ge (cd_ge (a := 2 ^ (2 * w) - sl * lo * d) hpos)
      rw [e2] at h5
      exact le_cancel hDU (Rat.le_trans h4 h5)
theorem atA_ok {U t : Rat} {al ah w : Nat} (hU : U = ((2 ^ w : Nat) : Rat)) (h0 : 0 ≤ t) (h1 : t ≤ 1 / 2) (hl : (al : Rat) ≤ U * t) (hh : U * t ≤ (ah : Rat)) {m : Nat} (hm : 40 ≤ m) :
    ((atA al ah w).1 : Rat) ≤ U * At t m ∧ U * At t m ≤ ((atA al ah w).2 : Rat) := by
  have hp : 0 < U := by rw [hU]; exact two_pos w
  have hUt := mul_nn (Rat.le_of_lt hp) h0
  have s1 : ((al * al / 2 ^ w : Nat) : Rat) ≤ U * (t * t) := by
    have h1 := q_le (Nat.div_mul_le_self (al * al) (2 ^ w))
    rw [Rat.natCast_mul, ← hU] at h1
    have h2 := mul_mono (cast_nn al) hl (cast_nn al) hl
    exact le_cancel hp (by grind)
  have s2 : U * (t * t) ≤ ((cd (ah * ah) (2 ^ w) : Nat) : Rat) := by
    have h1 := q_ge (cd_ge (a := ah * ah) (Nat.two_pow_pos w))
    rw [Rat.natCast_mul, ← hU] at h1
    have h2 := mul_mono hUt hh hUt hh
    exact le_cancel hp (by grind)
  have htt : t * t ≤ 1 / 2 := by have := mul_mono h0 h1 h0 h1; grind
  obtain ⟨k, rfl⟩ := Nat.le.dest hm
  obtain ⟨a, b⟩ := atP_ok hU (mul_nn h0 h0) htt s1 s2 39 (Nat.le_refl _) k
  rw [show k + 39 + 1 = 40 + k by omega, Nat.sub_self] at a b
  obtain ⟨c1, c2⟩ := vt_in (mul_nn h0 h0) (show t * t ≤ 1 by grind) (40 + k) 0
  rw [At_vt]
  unfold atA
  constructor
  · have h2 := q_le (Nat.div_mul_le_self (al * (atP (al * al / 2 ^ w) (cd (ah * ah) (2 ^ w)) w 39).1) (2 ^ w))
    rw [Rat.natCast_mul, ← hU] at h2
    have h3 := mul_mono (cast_nn al) hl (cast_nn _) a
    exact le_cancel hp (Rat.le_trans h2 (Rat.le_trans h3 (by grind)))
  · have h2 := q_ge (cd_ge (a := ah * (atP (al * al / 2 ^ w) (cd (ah * ah) (2 ^ w)) w 39).2) (Nat.two_pow_pos w))
    rw [Rat.natCast_mul, ← hU] at h2
    have h3 := mul_mono hUt hh (mul_nn (Rat.le_of_lt hp) c1) b
    exact le_cancel hp (Rat.le_trans (by grind) (Rat.le_trans h3 h2))
theorem part_shut {U : Rat} {w n : Nat} (hU : U = ((2 ^ w : Nat) : Rat)) (hn : 0 < n) : ((2 ^ w / n : Nat) : Rat) ≤ U * (1 / (n : Rat)) ∧ U * (1 / (n : Rat)) ≤ ((cd (2 ^ w) n : Nat) : Rat) := by
  have h0 := cast_lt hn
  have h1 := q_le (Nat.div_mul_le_self (2 ^ w) n)
  have h2 := q_ge (cd_ge (a := 2 ^ w) hn)
  rw [← hU] at h1 h2
  rw [show U * (1 / (n : Rat)) = U / (n : Rat) by grind]
  exact ⟨le_div h0 h1, div_le h0 h2⟩
/-- a quarter turn between the program's bounds -/
theorem piA_ok (w : Nat) {m : Nat} (hm : 40 ≤ m) : ((piA w).1 : Rat) ≤ ((2 ^ (w + 1) : Nat) : Rat) * qt m ∨ qt m < 0 := by
  obtain ⟨U, hU⟩ : ∃ U, U = ((2 ^ w : Nat) : Rat) := ⟨_, rfl⟩
  have hp : 0 < U := by rw [hU]; exact two_pos w
  obtain ⟨a1, a2⟩ := part_shut (n := 5) hU (by omega)
  obtain ⟨b1, b2⟩ := part_shut (n := 239) hU (by omega)
  rw [show (((5 : Nat) : Rat)) = 5 from rfl] at a1 a2
  rw [show (((239 : Nat) : Rat)) = 239 from rfl] at b1 b2
  obtain ⟨c1, c2⟩ := atA_ok hU (show (0 : Rat) ≤ 1 / 5 by grind) (by grind) a1 a2 hm
  obtain ⟨d1, d2⟩ := atA_ok hU (show (0 : Rat) ≤ 1 / 239 by grind) (by grind) b1 b2 hm
  have e : ((2 ^ (w + 1) : Nat) : Rat) = U * 2 := by rw [Nat.pow_succ, Rat.natCast_mul, ← hU]; rfl
  by_cases hq : qt m < 0
  · exact Or.inr hq
  left
  rw [e]
  have h2 := mul_nn (Rat.le_of_lt hp) (show 0 ≤ qt m by grind)
  refine sub_le_of (a := (atA (2 ^ w / 5) (cd (2 ^ w) 5) w).1 * 16) (A := ((atA (2 ^ w / 5) (cd (2 ^ w) 5) w).1 : Rat) * 16) (b := (atA (2 ^ w / 239) (cd (2 ^ w) 239) w).2 * 4) (B := ((atA (2 ^ w / 239) (cd (2 ^ w) 239) w).2 : Rat) * 4) (by rw [Rat.natCast_mul]; rfl) (by rw [Rat.natCast_mul]; exact Rat.le_refl) (by grind) ?_
  unfold qt
  grind
theorem le_piA (w : Nat) {m : Nat} (hm : 40 ≤ m) : ((2 ^ (w + 1) : Nat) : Rat) * qt m ≤ ((piA w).2 : Rat) := by
  obtain ⟨U, hU⟩ : ∃ U, U = ((2 ^ w : Nat) : Rat) := ⟨_, rfl⟩
  obtain ⟨a1, a2⟩ := part_shut (n := 5) hU (by omega)
  obtain ⟨b1, b2⟩ := part_shut (n := 239) hU (by omega)
  rw [show (((5 : Nat) : Rat)) = 5 from rfl] at a1 a2
  rw [show (((239 : Nat) : Rat)) = 239 from rfl] at b1 b2
  obtain ⟨c1, c2⟩ := atA_ok hU (show (0 : Rat) ≤ 1 / 5 by grind) (by grind) a1 a2 hm
  obtain ⟨d1, d2⟩ := atA_ok hU (show (0 : Rat) ≤ 1 / 239 by grind) (by grind) b1 b2 hm
  have e : ((2 ^ (w + 1) : Nat) : Rat) = U * 2 := by rw [Nat.pow_succ, Rat.natCast_mul, ← hU]; rfl
  rw [e]
  refine le_sub_of (a := (atA (2 ^ w / 5) (cd (2 ^ w) 5) w).2 * 16) (A := ((atA (2 ^ w / 5) (cd (2 ^ w) 5) w).2 : Rat) * 16) (b := (atA (2 ^ w / 239) (cd (2 ^ w) 239) w).1 * 4) (B := ((atA (2 ^ w / 239) (cd (2 ^ w) 239) w).1 : Rat) * 4) (by rw [Rat.natCast_mul]; rfl) (by rw [Rat.natCast_mul]; exact Rat.le_refl) ?_
  unfold qt
  grind
/-- what is reckoned for each precision: the bounds are near 11/7, and near one another -/
def piChk (w : Nat) : Bool := decide ((atA (2 ^ w / 239) (cd (2 ^ w) 239) w).2 * 4 ≤ (atA (2 ^ w / 5) (cd (2 ^ w) 5) w).1 * 16) && decide ((atA (2 ^ w / 239) (cd (2 ^ w) 239) w).1 * 4 ≤ (atA (2 ^ w / 5) (cd (2 ^ w) 5) w).2 * 16)
  && decide (157 * 2 ^ (w + 1) ≤ 100 * (piA w).1) && decide (100 * (piA w).2 ≤ 158 * 2 ^ (w + 1)) && decide (((piA w).2 - (piA w).1) * 2 ^ 40 ≤ 2 ^ (w + 1))
theorem piChk_all : ∀ p, p < 129 → piChk (p + 64) = true := by decide +kernel
end Go.An