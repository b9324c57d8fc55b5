/- Numbers that a value denotes: powers, roots, absolute and canonical values. -/
import Derived.Test.YteblflmnhegmjaaDoorU2
import Derived.Test.YteblflmnhegmjaaDoorRt5
set_option linter.unusedVariables false
set_option linter.unusedSimpArgs false
namespace Go.Dig
theorem exact_pow {q : Rat} {k : Nat} (hk : 1 ≤ k) : exactQ (q ^ k) k = (if k % 2 = 0 then absQ q else q, true) := by
  have h1 : nu (q ^ k) = nu q ^ k := nu_pow q k
  have h2 : (q ^ k).den = q.den ^ k := Rat.den_pow q k
  have h3 := sg_pow q k
  unfold exactQ
  rw [h1, h2, rt_pow hk, rt_pow hk]
  rw [if_neg (by
    rintro ⟨a, b⟩
    rw [h3] at a
    simp [b] at a), if_pos ⟨rfl, rfl⟩]
  congr 1
  rcases Nat.mod_two_eq_zero_or_one k with e | e
  · rw [if_pos e, h3]
    unfold absQ
    simp [e]
  · rw [if_neg (by omega), h3]
    simp only [e, decide_true, Bool.and_true]
    exact mkQ_self q
/-- a power with an odd exponent of a negative -/
theorem neg_pow_odd (a : Rat) {k : Nat} (h : k % 2 = 1) : (-a) ^ k = -(a ^ k) := by
  refine ext3 ?_ ?_ ?_
  · rw [sg_pow, sg_neg, sg_neg, sg_pow, nu_pow]
    have : nu a ^ k ≠ 0 ↔ nu a ≠ 0 := by
      constructor
      · intro h1 h2; rw [h2, Nat.zero_pow (by omega)] at h1; exact h1 rfl
      · intro h1; exact Nat.ne_of_gt (Nat.pow_pos (Nat.pos_of_ne_zero h1))
    simp [h, this]
  · rw [nu_pow, nu_neg, nu_neg, nu_pow]
  · rw [Rat.den_pow, Rat.neg_den, Rat.neg_den, Rat.den_pow]
theorem neg_le {a b : Rat} (h : a ≤ b) : -b ≤ -a := by
  rw [Rat.le_iff_sub_nonneg] at h ⊢
  rw [Rat.sub_eq_add_neg] at h ⊢
  rw [Rat.neg_neg, Rat.add_comm]; exact h
theorem mk_pow_scale (X p k : Nat) : (mkQ false X (2 ^ p)) ^ k * 2 ^ (p * k) = (((X ^ k : Nat) : Int) : Rat) := by
  have e2 : (mkQ false X (2 ^ p)) ^ k = ((((X ^ k : Nat) : Int) : Rat)) / 2 ^ (p * k) := by
    unfold mkQ
    simp only [Bool.false_eq_true, if_false]
    rw [mkRat_pow, ← Nat.pow_mul, Rat.mkRat_eq_div, ← Int.natCast_pow]
    congr 1
    exact cast_pow2 (p * k)
  rw [e2, div_mul_pow]
theorem floor_rad {q : Rat} (h : sg q = false) (K : Nat) : (q * 2 ^ K).floor = (radW q K : Int) := by
  rw [floor_scaled, num_eq q, h]
  unfold radW
  simp
theorem below_pow_le {q : Rat} {N p : Nat} (hN : 1 ≤ N) (h : sg q = false) : rootQ q N p false ^ N ≤ q := by
  have e : rootQ q N p false = mkQ false (rt (radW q (p * N)) N) (2 ^ p) := by unfold rootQ; rw [h, if_pos (.inl rfl), Nat.add_zero]
  rw [← le_scale (p * N), e, mk_pow_scale, ← Rat.le_floor_iff, floor_rad h]
  exact_mod_cast rt_le hN
theorem le_above_pow {q : Rat} {N p : Nat} (hN : 1 ≤ N) (h : sg q = false) : q ≤ rootQ q N p true ^ N := by
  by_cases c : radE q N (p * N)
  · have e : rootQ q N p true = rootQ q N p false := by unfold rootQ; rw [h, if_pos (.inr c), if_pos (.inl rfl)]
    rw [e, (below_pow hN h).2 c]
    exact Rat.le_refl
  · have e : rootQ q N p true = mkQ false (rt (radW q (p * N)) N + 1) (2 ^ p) := by unfold rootQ; rw [h, if_neg (by simp [c])]
    rw [← le_scale (p * N), e, mk_pow_scale]
    have h1 := rt_lt (a := radW q (p * N)) hN
    have h2 : q * 2 ^ (p * N) < (((q * 2 ^ (p * N)).floor + 1 : Int) : Rat) := Rat.lt_floor_add_one _
    rw [floor_rad h] at h2
    have h3 : ((radW q (p * N) : Int) + 1 : Int) ≤ (((rt (radW q (p * N)) N + 1) ^ N : Nat) : Int) := by exact_mod_cast h1
    have h4 : (((radW q (p * N) : Int) + 1 : Int) : Rat) ≤ ((((rt (radW q (p * N)) N + 1) ^ N : Nat) : Int) : Rat) := Rat.intCast_le_intCast.2 h3
    exact Rat.le_trans (Rat.le_of_lt h2) h4
theorem root_low {q : Rat} {N p : Nat} (hN : 1 ≤ N) (h : ¬ (sg q = true ∧ N % 2 = 0)) : rootQ q N p false ^ N ≤ q := by
  cases hs : sg q with
  | false => exact below_pow_le hN hs
  | true =>
    have ho : N % 2 = 1 := by
      rcases Nat.mod_two_eq_zero_or_one N with e | e
      · exact absurd ⟨hs, e⟩ h
      · exact e
    have h2 : sg (-q) = false := by rw [sg_neg, hs]; rfl
    have e : rootQ q N p false = -rootQ (-q) N p true := rootQ_neg hs
    rw [e, neg_pow_odd _ ho]
    have := neg_le (le_above_pow (p := p) hN h2)
    rwa [Rat.neg_neg] at this
theorem root_high {q : Rat} {N p : Nat} (hN : 1 ≤ N) (h : ¬ (sg q = true ∧ N % 2 = 0)) : q ≤ rootQ q N p true ^ N := by
  cases hs : sg q with
  | false => exact le_above_pow hN hs
  | true =>
    have ho : N % 2 = 1 := by
      rcases Nat.mod_two_eq_zero_or_one N with e | e
      · exact absurd ⟨hs, e⟩ h
      · exact e
    have h2 : sg (-q) = false := by rw [sg_neg, hs]; rfl
    have e : rootQ q N p true = -rootQ (-q) N p false := rootQ_neg hs
    rw [e, neg_pow_odd _ ho]
    have := neg_le (below_pow_le (p := p) hN h2)
    rwa [Rat.neg_neg] at this
theorem cmp_le0 {q r : Rat} (h : q ≤ r) : cmpQ q r ≤ 0 := by
  rcases cmp_tri q r with ⟨e, -⟩ | ⟨e, -⟩ | ⟨-, e⟩
  · omega
  · omega
  · exact absurd h (Rat.not_le.2 e)
end Go.Dig
namespace Go.Proofs.YteblflmnhegmjaaDoor
open Go Go.Vc Go.Dig
theorem fits_abs' {q : Rat} (h : fits q) : fits (absQ q) := ⟨by rw [nu_abs]; exact h.1, by rw [den_abs]; exact h.2⟩
theorem fits_exact {q : Rat} {N : Nat} (hN : 1 ≤ N) (h : fits q) : fits (exactQ q N).1 := by
  unfold exactQ
  split
  · exact fits_zero
  · split
    · have hle := mkQ_le (sg q) (m := rt (nu q) N) (rt_den (q := q) hN)
      have w1 := ln_le_of_le (rt_self (nu q) hN)
      have w2 := ln_le_of_le (rt_self q.den hN)
      have y1 := h.1
      have y2 := h.2
      exact ⟨Nat.le_trans (ln_le_of_le hle.1) (by omega), Nat.le_trans (ln_le_of_le hle.2) (by omega)⟩
    · exact fits_zero
theorem IsNum.fits {h : Heap} {n : Bool} {a b : Sl} {x : Option Rat} (w : IsNum h n a b x) : ∀ q, x = some q → Proofs.YteblflmnhegmjaaDoor.fits q := fun q e => by
  obtain ⟨l, m, v, e'⟩ := w.ex
  rw [e] at e'
  unfold valOf at e'
  split at e'
  · rename_i hk
    cases e'
    exact hk.2.2
  · cases e'
def powR : Option Rat → Int → Rat × Int
  | some q, n => if n < -32 ∨ 32 < n then (0, 2) else if n < 0 ∧ nu q = 0 then (0, 10) else outR (powQ q n)
  | none, _ => (0, 1)
theorem powR_val (n1 : Bool) (l1 m1 : List Nat) (n : Int) : specPow n1 l1 m1 n = powR (valOf n1 l1 m1) n := by
  unfold specPow valOf
  by_cases h1 : okR n1 l1 m1 <;> simp [h1, powR]
theorem Fok.powR (x : Option Rat) (n : Int) : Fok (powR x n) := by
  cases x with
  | none => exact Fok.err1 1
  | some q =>
    show Fok (if n < -32 ∨ 32 < n then (0, 2) else if n < 0 ∧ nu q = 0 then (0, 10) else outR (powQ q n))
    split
    · exact Fok.err1 2
    · split
      · exact Fok.err1 10
      · exact Fok.out _
theorem powR_ok {x : Option Rat} {k : Nat} (hk : k ≤ 32) (h : (Proofs.YteblflmnhegmjaaDoor.powR x k).2 = 0) : ∃ q, x = some q ∧ (Proofs.YteblflmnhegmjaaDoor.powR x k).1 = q ^ k := by
  cases x with
  | none => exact absurd h (by simp [Proofs.YteblflmnhegmjaaDoor.powR])
  | some q =>
    have e : Proofs.YteblflmnhegmjaaDoor.powR (some q) k = outR (q ^ k) := by
      show (if (k : Int) < -32 ∨ 32 < (k : Int) then (0, 2) else if (k : Int) < 0 ∧ nu q = 0 then (0, 10) else outR (powQ q k)) = _
      rw [if_neg (by omega), if_neg (by omega)]
      unfold powQ
      rw [if_neg (by omega), Int.toNat_natCast]
    rw [e] at h ⊢
    exact ⟨q, rfl, outR_ok h⟩
theorem PowN (h : Heap) (n1 : Bool) (a1 b1 : Sl) (x : Option Rat) (n : Int) (lo : -9223372036854775808 ≤ n) (hi : n ≤ 9223372036854775807) (tb : Tb h) (hx : IsNum h n1 a1 b1 x) :
    Fn0 T F.number_Pow [.agg #[.bool n1, a1.val, b1.val], .int .i64 n] h fun v h' => ResN h' v (powR x n) := by
  obtain ⟨l1, m1, v1, rfl⟩ := hx.ex
  rw [← powR_val]
  exact (NPow_ct h tb n1 a1 b1 l1 m1 v1 n lo hi).mono fun v h' _ r => r.isn (by rw [powR_val]; exact Fok.powR _ _)
def opR1 (op : Rat → Rat) : Option Rat → Rat × Int
  | some q => outR (op q)
  | none => (0, 1)
theorem opR1_val (op : Rat → Rat) (n1 : Bool) (l1 m1 : List Nat) : spec1 op n1 l1 m1 = opR1 op (valOf n1 l1 m1) := by
  unfold spec1 valOf
  by_cases h1 : okR n1 l1 m1 <;> simp [h1, opR1]
theorem Fok.opR1 (op : Rat → Rat) (x : Option Rat) : Fok (opR1 op x) := by
  cases x <;> first | exact Fok.out _ | exact Fok.err1 1
theorem AbsN (h : Heap) (n1 : Bool) (a1 b1 : Sl) (x : Option Rat) (tb : Tb h) (hx : IsNum h n1 a1 b1 x) :
    Fn0 T F.number_Abs [.agg #[.bool n1, a1.val, b1.val]] h fun v h' => ResN h' v (opR1 absQ x) := by
  obtain ⟨l1, m1, v1, rfl⟩ := hx.ex
  rw [← opR1_val]
  exact (NAbs_ct h tb n1 a1 b1 l1 m1 v1).mono fun v h' _ r => r.isn (by rw [opR1_val]; exact Fok.opR1 _ _)
theorem CanonN (h : Heap) (n1 : Bool) (a1 b1 : Sl) (x : Option Rat) (tb : Tb h) (hx : IsNum h n1 a1 b1 x) :
    Fn0 T F.number_Canon [.agg #[.bool n1, a1.val, b1.val]] h fun v h' => ResN h' v (opR1 (fun q => q) x) := by
  obtain ⟨l1, m1, v1, rfl⟩ := hx.ex
  rw [← opR1_val]
  exact (NCanon_ct h tb n1 a1 b1 l1 m1 v1).mono fun v h' _ r => r.isn (by rw [opR1_val]; exact Fok.opR1 _ _)
def rootR : Option Rat → Int → Rat × Bool × Int
  | some q, n => if n < 2 ∨ 8 < n then (0, false, 2) else ((exactQ q n.toNat).1, (exactQ q n.toNat).2, 0)
  | none, _ => (0, false, 1)
theorem rootR_val (n1 : Bool) (l1 m1 : List Nat) (n : Int) : specRoot n1 l1 m1 n = rootR (valOf n1 l1 m1) n := by
  unfold specRoot valOf
  by_cases h1 : okR n1 l1 m1 <;> simp [h1, rootR]
theorem RootN (h : Heap) (n1 : Bool) (a1 b1 : Sl) (x : Option Rat) (n : Int) (lo : -9223372036854775808 ≤ n) (hi : n ≤ 9223372036854775807) (tb : Tb h) (hx : IsNum h n1 a1 b1 x) :
    Fn0 T F.number_Root [.agg #[.bool n1, a1.val, b1.val], .int .i64 n] h fun v h' => ∃ a b : Sl, v = .tuple #[.agg #[.bool (sg (rootR x n).1), a.val, b.val], .bool (rootR x n).2.1, .int .i64 (rootR x n).2.2] ∧ IsRat h' a b (rootR x n).1 ∧ IsNum h' (sg (rootR x n).1) a b (some (rootR x n).1) := by
  have hfx := hx.fits
  obtain ⟨l1, m1, v1, rfl⟩ := hx.ex
  have hf : fits (rootR (valOf n1 l1 m1) n).1 := by
    cases hv : valOf n1 l1 m1 with
    | none => exact fits_zero
    | some q =>
      show fits (if n < 2 ∨ 8 < n then ((0 : Rat), false, (2 : Int)) else ((exactQ q n.toNat).1, (exactQ q n.toNat).2, 0)).1
      split
      · exact fits_zero
      · exact fits_exact (by omega) (hfx q hv)
  rw [← rootR_val] at hf ⊢
  exact (NRoot_ct h tb n1 a1 b1 l1 m1 v1 n lo hi).mono fun v h' _ r => by
    obtain ⟨a, b, e, w⟩ := r
    exact ⟨a, b, e, w, w.isnum hf⟩
def grR (up : Bool) : Option Rat → Int → Int → Rat × Int
  | some q, n, p => if n < 2 ∨ 8 < n ∨ p < 0 ∨ 256 < p then (0, 2) else if sg q = true ∧ n.toNat % 2 = 0 then (0, 5) else outR (rootQ q n.toNat p.toNat up)
  | none, _, _ => (0, 1)
theorem grR_val (up : Bool) (n1 : Bool) (l1 m1 : List Nat) (n p : Int) : specGR up n1 l1 m1 n p = grR up (valOf n1 l1 m1) n p := by
  unfold specGR valOf
  by_cases h1 : okR n1 l1 m1 <;> simp [h1, grR]
theorem Fok.grR (up : Bool) (x : Option Rat) (n p : Int) : Fok (grR up x n p) := by
  cases x with
  | none => exact Fok.err1 1
  | some q =>
    show Fok (if n < 2 ∨ 8 < n ∨ p < 0 ∨ 256 < p then (0, 2) else if sg q = true ∧ n.toNat % 2 = 0 then (0, 5) else outR (rootQ q n.toNat p.toNat up))
    split
    · exact Fok.err1 2
    · split
      · exact Fok.err1 5
      · exact Fok.out _
theorem grR_ok {up : Bool} {x : Option Rat} {k p : Nat} (h2 : 2 ≤ k) (h8 : k ≤ 8) (hp : p ≤ 256) (h : (Proofs.YteblflmnhegmjaaDoor.grR up x k p).2 = 0) : ∃ q, x = some q ∧ ¬ (sg q = true ∧ k % 2 = 0) ∧ (Proofs.YteblflmnhegmjaaDoor.grR up x k p).1 = rootQ q k p up := by
  cases x with
  | none => exact absurd h (by simp [Proofs.YteblflmnhegmjaaDoor.grR])
  | some q =>
    have e : Proofs.YteblflmnhegmjaaDoor.grR up (some q) k p = if sg q = true ∧ k % 2 = 0 then (0, 5) else outR (rootQ q k p up) := by
      show (if (k : Int) < 2 ∨ 8 < (k : Int) ∨ (p : Int) < 0 ∨ 256 < (p : Int) then ((0 : Rat), (2 : Int)) else _) = _
      rw [if_neg (by omega), Int.toNat_natCast, Int.toNat_natCast]
    rw [e] at h ⊢
    by_cases hc : sg q = true ∧ k % 2 = 0
    · rw [if_pos hc] at h; cases h
    · rw [if_neg hc] at h ⊢
      exact ⟨q, rfl, hc, outR_ok h⟩
theorem RootDownN (h : Heap) (n1 : Bool) (a1 b1 : Sl) (x : Option Rat) (n p : Int) (lo : -9223372036854775808 ≤ n) (hi : n ≤ 9223372036854775807) (lo' : -9223372036854775808 ≤ p) (hi' : p ≤ 9223372036854775807) (tb : Tb h) (hx : IsNum h n1 a1 b1 x) :
    Fn0 T F.number_RootDown [.agg #[.bool n1, a1.val, b1.val], .int .i64 n, .int .i64 p] h fun v h' => ResN h' v (grR false x n p) := by
  obtain ⟨l1, m1, v1, rfl⟩ := hx.ex
  rw [← grR_val]
  exact (NRootDown_ct h tb n1 a1 b1 l1 m1 v1 n p lo hi lo' hi').mono fun v h' _ r => r.isn (by rw [grR_val]; exact Fok.grR _ _ _ _)
theorem RootUpN (h : Heap) (n1 : Bool) (a1 b1 : Sl) (x : Option Rat) (n p : Int) (lo : -9223372036854775808 ≤ n) (hi : n ≤ 9223372036854775807) (lo' : -9223372036854775808 ≤ p) (hi' : p ≤ 9223372036854775807) (tb : Tb h) (hx : IsNum h n1 a1 b1 x) :
    Fn0 T F.number_RootUp [.agg #[.bool n1, a1.val, b1.val], .int .i64 n, .int .i64 p] h fun v h' => ResN h' v (grR true x n p) := by
  obtain ⟨l1, m1, v1, rfl⟩ := hx.ex
  rw [← grR_val]
  exact (NRootUp_ct h tb n1 a1 b1 l1 m1 v1 n p lo hi lo' hi').mono fun v h' _ r => r.isn (by rw [grR_val]; exact Fok.grR _ _ _ _)
end Go.Proofs.YteblflmnhegmjaaDoor
