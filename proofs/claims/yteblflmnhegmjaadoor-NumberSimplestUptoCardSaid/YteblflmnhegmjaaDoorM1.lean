/- The number with the least denominator between two positive numbers: the common beginning of two continued fractions. -/
import Derived.Test.YteblflmnhegmjaaDoorQrat
set_option linter.unusedVariables false
set_option linter.unusedSimpArgs false
namespace Go.Dig
/-- numerator and denominator of the simplest number from n / d to m / e -/
def smp : Nat → Nat → Nat → Nat → Nat → Nat × Nat
  | 0, n, d, _, _ => (n, d)
  | k + 1, n, d, m, e => if n % d = 0 then (n / d, 1) else if (n / d + 1) * e ≤ m then (n / d + 1, 1) else
    (n / d * (smp k e (m - n / d * e) d (n % d)).1 + (smp k e (m - n / d * e) d (n % d)).2, (smp k e (m - n / d * e) d (n % d)).1)
/-- two numbers in their order, the first one positive -/
structure Pos2 (n d m e : Nat) : Prop where
  n0 : 0 < n
  d0 : 0 < d
  e0 : 0 < e
  le : n * e ≤ m * d
theorem Pos2.m0 {n d m e : Nat} (p : Pos2 n d m e) : 0 < m := by
  rcases Nat.eq_zero_or_pos m with h | h
  · have := p.le; rw [h, Nat.zero_mul] at this
    have := Nat.mul_pos p.n0 p.e0; omega
  · exact h
/-- the steps are enough -/
def Enough (k n d m e : Nat) : Prop := (d ≤ n → n * d + m * e < 2 ^ k) ∧ (n < d → 1 ≤ k ∧ n * d + m * e < 2 ^ (k - 1))
theorem split_nd {n d : Nat} (hd : 0 < d) : n = n / d * d + n % d ∧ n % d < d := ⟨by rw [Nat.mul_comm]; exact (Nat.div_add_mod n d).symm, Nat.mod_lt _ hd⟩
/-- what holds where both have the same whole part -/
theorem Pos2.step {n d m e : Nat} (p : Pos2 n d m e) (hr : n % d ≠ 0) (hn : ¬ (n / d + 1) * e ≤ m) : n / d * e < m ∧ m - n / d * e < e ∧ Pos2 e (m - n / d * e) d (n % d) := by
  obtain ⟨h1, h2⟩ := split_nd (n := n) p.d0
  obtain ⟨w, hw⟩ : ∃ w, w = n / d := ⟨_, rfl⟩
  obtain ⟨r, hr'⟩ : ∃ r, r = n % d := ⟨_, rfl⟩
  rw [← hw] at h1 hn ⊢
  rw [← hr'] at h1 h2 hr ⊢
  have hle := p.le
  have hd := p.d0
  have he := p.e0
  have hre : 0 < r * e := Nat.mul_pos (by omega) he
  rw [h1, Nat.add_mul] at hle
  have e1 : w * d * e = w * e * d := Nat.mul_right_comm w d e
  rw [e1] at hle
  have a1 : w * e < m := by
    rcases Nat.lt_or_ge (w * e) m with h | h
    · exact h
    · have := Nat.mul_le_mul_right d h; omega
  rw [Nat.add_mul, Nat.one_mul] at hn
  refine ⟨a1, by omega, he, by omega, by omega, ?_⟩
  rw [Nat.mul_sub, Nat.mul_comm e r, Nat.mul_comm d m, Nat.mul_comm d (w * e)]
  omega
theorem Enough.step {k n d m e : Nat} (p : Pos2 n d m e) (h : Enough (k + 1) n d m e) (hr : n % d ≠ 0) (hn : ¬ (n / d + 1) * e ≤ m) : Enough k e (m - n / d * e) d (n % d) := by
  obtain ⟨a1, a2, a3⟩ := p.step hr hn
  obtain ⟨h1, h2⟩ := split_nd (n := n) p.d0
  refine ⟨fun _ => ?_, fun h => by omega⟩
  rcases Nat.lt_or_ge n d with hlt | hge
  · have h3 := (h.2 hlt).2
    have w0 : n / d = 0 := Nat.div_eq_of_lt hlt
    rw [w0, Nat.zero_mul, Nat.zero_add] at h1
    rw [w0, Nat.zero_mul, Nat.sub_zero, ← h1, Nat.mul_comm e m, Nat.mul_comm d n]
    rw [Nat.add_sub_cancel] at h3
    omega
  · have h3 := h.1 hge
    have w1 : 1 ≤ n / d := (Nat.one_le_div_iff p.d0).2 hge
    have w2 : d ≤ n / d * d := Nat.le_mul_of_pos_left d w1
    have w3 : e ≤ n / d * e := Nat.le_mul_of_pos_left e w1
    have b1 : 2 * (n % d) ≤ n := by omega
    have b2 : 2 * (m - n / d * e) ≤ m := by omega
    have c1 := Nat.mul_le_mul_right d b1
    have c2 := Nat.mul_le_mul_right e b2
    rw [Nat.mul_assoc] at c1 c2
    rw [Nat.mul_comm e, Nat.mul_comm d]
    rw [Nat.pow_succ] at h3
    omega
theorem Enough.pos {n d m e : Nat} (p : Pos2 n d m e) : ¬ Enough 0 n d m e := fun h => by
  rcases Nat.lt_or_ge n d with hlt | hge
  · have := (h.2 hlt).1; omega
  · have h3 := h.1 hge
    have := Nat.mul_pos p.n0 p.d0
    rw [Nat.pow_zero] at h3; omega
theorem smp_next {k n d m e : Nat} (hr : n % d ≠ 0) (hn : ¬ (n / d + 1) * e ≤ m) : smp (k + 1) n d m e = (n / d * (smp k e (m - n / d * e) d (n % d)).1 + (smp k e (m - n / d * e) d (n % d)).2, (smp k e (m - n / d * e) d (n % d)).1) := by
  rw [smp, if_neg hr, if_neg hn]
/-- its parts are positive, and bounded by those of one of the two -/
theorem smp_pos {k : Nat} : ∀ {n d m e : Nat}, Pos2 n d m e → 0 < (smp k n d m e).1 ∧ 0 < (smp k n d m e).2 := by
  induction k with
  | zero => intro n d m e p; exact ⟨p.n0, p.d0⟩
  | succ k ih =>
    intro n d m e p
    by_cases hr : n % d = 0
    · rw [smp, if_pos hr]
      refine ⟨?_, Nat.one_pos⟩
      have := (split_nd (n := n) p.d0).1
      have hn := p.n0
      rcases Nat.eq_zero_or_pos (n / d) with h | h
      · rw [h, hr, Nat.zero_mul] at this; omega
      · exact h
    · by_cases hn : (n / d + 1) * e ≤ m
      · rw [smp, if_neg hr, if_pos hn]; exact ⟨Nat.succ_pos _, Nat.one_pos⟩
      · have := ih (p.step hr hn).2.2
        rw [smp_next hr hn]
        exact ⟨by simp only; omega, this.1⟩
theorem smp_le {k : Nat} : ∀ {n d m e : Nat}, Pos2 n d m e → ((smp k n d m e).1 ≤ n ∧ (smp k n d m e).2 ≤ d) ∨ ((smp k n d m e).1 ≤ m ∧ (smp k n d m e).2 ≤ e) := by
  induction k with
  | zero => intro n d m e p; exact .inl ⟨Nat.le_refl _, Nat.le_refl _⟩
  | succ k ih =>
    intro n d m e p
    have h1 := split_nd (n := n) p.d0
    have hd := p.d0
    by_cases hr : n % d = 0
    · rw [smp, if_pos hr]; exact .inl ⟨Nat.div_le_self _ _, hd⟩
    · by_cases hn : (n / d + 1) * e ≤ m
      · rw [smp, if_neg hr, if_pos hn]
        refine .inl ⟨?_, hd⟩
        have : n / d ≤ n / d * d := Nat.le_mul_of_pos_right _ hd
        simp only; omega
      · obtain ⟨a1, a2, a3⟩ := p.step hr hn
        rw [smp_next hr hn]
        rcases ih a3 with ⟨b1, b2⟩ | ⟨b1, b2⟩
        · have := Nat.mul_le_mul_left (n / d) b1
          exact .inr ⟨by simp only; omega, b1⟩
        · have := Nat.mul_le_mul_left (n / d) b1
          exact .inl ⟨by simp only; omega, b1⟩
/-- it lies between the two -/
theorem smp_mem {k : Nat} : ∀ {n d m e : Nat}, Pos2 n d m e → n * (smp k n d m e).2 ≤ (smp k n d m e).1 * d ∧ (smp k n d m e).1 * e ≤ m * (smp k n d m e).2 := by
  induction k with
  | zero => intro n d m e p; exact ⟨Nat.le_refl _, p.le⟩
  | succ k ih =>
    intro n d m e p
    have h1 := split_nd (n := n) p.d0
    have hle := p.le
    by_cases hr : n % d = 0
    · rw [smp, if_pos hr]
      obtain ⟨w, hw⟩ : ∃ w, w = n / d := ⟨_, rfl⟩
      rw [← hw, hr] at h1
      rw [← hw]
      refine ⟨by simp only; omega, ?_⟩
      simp only
      have e1 : n * e = w * e * d := by rw [h1.1, Nat.add_zero, Nat.mul_right_comm]
      rw [e1] at hle
      rw [Nat.mul_one]
      exact Nat.le_of_mul_le_mul_right hle p.d0
    · by_cases hn : (n / d + 1) * e ≤ m
      · rw [smp, if_neg hr, if_pos hn]
        refine ⟨?_, by simpa using hn⟩
        simp only [Nat.add_mul, Nat.one_mul, Nat.mul_one]
        omega
      · obtain ⟨a1, a2, a3⟩ := p.step hr hn
        obtain ⟨b1, b2⟩ := ih a3
        rw [smp_next hr hn]
        obtain ⟨a, ha⟩ : ∃ a, a = (smp k e (m - n / d * e) d (n % d)).1 := ⟨_, rfl⟩
        obtain ⟨b, hb⟩ : ∃ b, b = (smp k e (m - n / d * e) d (n % d)).2 := ⟨_, rfl⟩
        rw [← ha, ← hb] at b1 b2 ⊢
        obtain ⟨w, hw⟩ : ∃ w, w = n / d := ⟨_, rfl⟩
        obtain ⟨r, hr'⟩ : ∃ r, r = n % d := ⟨_, rfl⟩
        rw [← hw, ← hr'] at h1
        rw [← hw] at a1 a2 b1
        rw [← hr'] at b2
        rw [← hw]
        simp only
        constructor
        · have e1 : n * a = w * a * d + a * r := by
            conv => lhs; rw [h1.1]
            rw [Nat.add_mul, Nat.mul_right_comm, Nat.mul_comm r a]
          rw [e1, Nat.add_mul, Nat.mul_comm b d]
          omega
        · have e2 : a * (m - w * e) + w * a * e = m * a := by
            rw [Nat.mul_sub, Nat.mul_comm a m]
            have : a * (w * e) = w * a * e := by rw [← Nat.mul_assoc, Nat.mul_comm a w]
            rw [this]
            have : w * a * e ≤ m * a := by
              rw [Nat.mul_right_comm]; exact Nat.mul_le_mul_right _ (by omega)
            omega
          rw [Nat.add_mul, Nat.mul_comm b e]
          omega
/-- no number between the two has smaller parts -/
theorem smp_min {k : Nat} : ∀ {n d m e p q : Nat}, Pos2 n d m e → Enough k n d m e → 0 < q → n * q ≤ p * d → p * e ≤ m * q → (smp k n d m e).1 ≤ p ∧ (smp k n d m e).2 ≤ q := by
  induction k with
  | zero => intro n d m e p q P h; exact absurd h (Enough.pos P)
  | succ k ih =>
    intro n d m e p q P h hq c1 c2
    have h1 := split_nd (n := n) P.d0
    obtain ⟨w, hw⟩ : ∃ w, w = n / d := ⟨_, rfl⟩
    obtain ⟨r, hr'⟩ : ∃ r, r = n % d := ⟨_, rfl⟩
    have g1 : w * q * d + r * q ≤ p * d := by
      have : n * q = w * q * d + r * q := by
        conv => lhs; rw [h1.1]
        rw [← hw, ← hr', Nat.add_mul, Nat.mul_right_comm]
      omega
    have g2 : w ≤ w * q := Nat.le_mul_of_pos_right _ hq
    have hwp : w * q ≤ p := Nat.le_of_mul_le_mul_right (Nat.le_trans (Nat.le_add_right _ _) g1) P.d0
    by_cases hr : n % d = 0
    · rw [smp, if_pos hr, ← hw]; exact ⟨by simp only; omega, hq⟩
    · have hlt : w * q < p := by
        rcases Nat.lt_or_ge (w * q) p with h | h
        · exact h
        · have := Nat.mul_le_mul_right d h
          have := Nat.mul_pos (show 0 < r by omega) hq
          omega
      by_cases hn : (n / d + 1) * e ≤ m
      · rw [smp, if_neg hr, if_pos hn, ← hw]; exact ⟨by simp only; omega, hq⟩
      · obtain ⟨a1, a2, a3⟩ := P.step hr hn
        have := ih a3 (h.step P hr hn) (p := q) (q := p - w * q) (by omega) (by
          rw [← hw, Nat.mul_sub, Nat.mul_sub]
          have : e * (w * q) = q * (w * e) := by rw [Nat.mul_left_comm, Nat.mul_left_comm q w e, Nat.mul_comm e q]
          rw [this, Nat.mul_comm e p, Nat.mul_comm q m]; omega) (by
          rw [← hr', Nat.mul_sub, Nat.mul_comm d p, Nat.mul_comm d, Nat.mul_comm q r]; omega)
        rw [smp_next hr hn]
        rw [← hw, ← hr'] at this ⊢
        have := Nat.mul_le_mul_left w this.1
        exact ⟨by simp only; omega, by simp only; omega⟩
theorem smp_cop {k : Nat} : ∀ {n d m e : Nat}, Pos2 n d m e → Enough k n d m e → Nat.gcd (smp k n d m e).1 (smp k n d m e).2 = 1 := by
  induction k with
  | zero => intro n d m e P h; exact absurd h (Enough.pos P)
  | succ k ih =>
    intro n d m e P h
    by_cases hr : n % d = 0
    · rw [smp, if_pos hr]; exact Nat.gcd_one_right _
    · by_cases hn : (n / d + 1) * e ≤ m
      · rw [smp, if_neg hr, if_pos hn]; exact Nat.gcd_one_right _
      · have := ih (P.step hr hn).2.2 (h.step P hr hn)
        rw [smp_next hr hn]
        simp only
        rw [Nat.gcd_comm, Nat.gcd_mul_right_add_right]
        exact this
/-- a number that is not negative, with its parts -/
structure Pr (q : Rat) (n d : Nat) : Prop where
  s : sg q = false
  n : nu q = n
  d : q.den = d
theorem Pr.mk' {n d : Nat} (hd : d ≠ 0) (h : Nat.gcd n d = 1) : Pr (mkQ false n d) n d :=
  ⟨by rw [sg_mkQ _ hd]; rfl, by rw [nu_mkQ _ hd, h, Nat.div_one], by rw [den_mkQ _ hd, h, Nat.div_one]⟩
theorem Pr.eq {q : Rat} {n d : Nat} (p : Pr q n d) : q = mkQ false n d := by
  rw [← p.s, ← p.n, ← p.d]; exact (mkQ_self q).symm
theorem Pr.cop {q : Rat} {n d : Nat} (p : Pr q n d) : Nat.gcd n d = 1 := by rw [← p.n, ← p.d]; exact Dig.cop q
theorem Pr.den {q : Rat} {n d : Nat} (p : Pr q n d) : d ≠ 0 := by rw [← p.d]; exact q.den_nz
theorem Pr.floor {q : Rat} {n d : Nat} (p : Pr q n d) : Pr (gridQ q 0 false) (n / d) 1 := by
  rw [bottom_eq, p.s, p.n, p.d, if_neg (by simp), Nat.add_zero]
  exact Pr.mk' (by decide) (Nat.gcd_one_right _)
theorem Pr.one : Pr ((1 : Int) : Rat) 1 1 := ⟨by rw [sg_int]; rfl, by rw [nu_int]; rfl, den_int 1⟩
theorem Pr.next {q : Rat} {w : Nat} (p : Pr q w 1) : Pr (q + ((1 : Int) : Rat)) (w + 1) 1 := by
  have o := Pr.one
  rw [add_same (p.s.trans o.s.symm), p.s, p.n, p.d, o.n, o.d, Nat.mul_one, Nat.mul_one]
  exact Pr.mk' (by decide) (Nat.gcd_one_right _)
theorem Pr.cmp {q r : Rat} {n d m e : Nat} (p : Pr q n d) (p' : Pr r m e) : cmpQ q r = cmpI (n * e) (m * d) := by
  have h1 := num_eq q
  have h2 := num_eq r
  rw [p.s, p.n] at h1
  rw [p'.s, p'.n] at h2
  unfold cmpQ cmpI
  rw [h1, h2, p.d, p'.d, ← sign_cmpI]
  simp
theorem cmpI_zero {x y : Nat} : cmpI x y = 0 ↔ x = y := by unfold cmpI; split <;> (try split) <;> omega
theorem cmpI_le {x y : Nat} : cmpI x y ≤ 0 ↔ x ≤ y := by unfold cmpI; split <;> (try split) <;> omega
theorem Pr.inv {q : Rat} {n d : Nat} (p : Pr q n d) (h : n ≠ 0) : Pr q⁻¹ d n :=
  ⟨by rw [sg_inv]; exact p.s, by rw [nu_inv _ (by rw [p.n]; exact h)]; exact p.d, by rw [den_inv _ (by rw [p.n]; exact h)]; exact p.n⟩
theorem Pr.less {q r : Rat} {m e w : Nat} (p : Pr q m e) (p' : Pr r w 1) (h : w * e < m) : Pr (q + -r) (m - w * e) e := by
  rcases Nat.eq_zero_or_pos w with h0 | h0
  · subst h0
    rw [nu_eq_zero.1 p'.n, Rat.neg_zero, Rat.add_zero, Nat.zero_mul, Nat.sub_zero]; exact p
  · have hs : sg (-r) = true := by rw [sg_neg, p'.s, p'.n]; simp; omega
    rw [add_ge (by rw [p.s, hs]; decide) (by rw [nu_neg, Rat.neg_den, p.n, p.d, p'.n, p'.d]; omega), p.s, nu_neg, Rat.neg_den, p.n, p.d, p'.n, p'.d, Nat.mul_one, Nat.mul_one]
    refine Pr.mk' p.den ?_
    have hc := p.cop
    rw [Nat.gcd_sub_mul_right_left (by omega)]
    exact hc
theorem Pr.back {q s : Rat} {w a b : Nat} (p : Pr q w 1) (p' : Pr s a b) (h : a ≠ 0) : Pr (q + s⁻¹) (w * a + b) a := by
  have i := p'.inv h
  rw [add_same (p.s.trans i.s.symm), p.s, p.n, p.d, i.n, i.d, Nat.mul_one, Nat.one_mul]
  refine Pr.mk' h ?_
  rw [Nat.gcd_comm, Nat.gcd_mul_right_add_right]
  exact p'.cop
theorem Pr.addw {q r : Rat} {w a b : Nat} (p : Pr q w 1) (i : Pr r b a) : Pr (q + r) (w * a + b) a := by
  rw [add_same (p.s.trans i.s.symm), p.s, p.n, p.d, i.n, i.d, Nat.mul_one, Nat.one_mul]
  refine Pr.mk' i.den ?_
  rw [Nat.gcd_comm, Nat.gcd_mul_right_add_right, Nat.gcd_comm]
  exact i.cop
/-- the whole parts, put together from behind -/
def back : List Nat → Nat × Nat → Nat × Nat
  | [], p => p
  | w :: ws, p => (w * (back ws p).1 + (back ws p).2, (back ws p).1)
theorem back_snoc (w : Nat) (p : Nat × Nat) : ∀ ws, back (ws ++ [w]) p = back ws (w * p.1 + p.2, p.1)
  | [] => rfl
  | v :: ws => by simp only [List.cons_append, back, back_snoc w p ws]
theorem enough_of {n d m e k : Nat} (h1 : n < 2 ^ k) (h2 : d < 2 ^ k) (h3 : m < 2 ^ k) (h4 : e < 2 ^ k) : Enough (2 * k + 2) n d m e := by
  have a1 : n * d ≤ 2 ^ k * 2 ^ k := Nat.mul_le_mul (by omega) (by omega)
  have a2 : m * e < 2 ^ k * 2 ^ k := Nat.mul_lt_mul_of_lt_of_le h3 (by omega) (Nat.two_pow_pos k)
  rw [← Nat.pow_add, show k + k = 2 * k by omega] at a1 a2
  have a3 : 2 ^ (2 * k + 1) = 2 ^ (2 * k) * 2 := Nat.pow_succ _ _
  have a4 : 2 ^ (2 * k + 2) = 2 ^ (2 * k + 1) * 2 := Nat.pow_succ _ _
  exact ⟨fun _ => by omega, fun _ => ⟨by omega, by rw [show 2 * k + 2 - 1 = 2 * k + 1 by omega]; omega⟩⟩
end Go.Dig
