/- The remainder of an angle: what the program's numbers satisfy. -/
import Derived.Test.YtdemgbmndijkkaaGreatDoorEL10
import Derived.Test.YtdemgbmndijkkaaGreatDoorRB4
set_option linter.unusedVariables false
set_option linter.unusedSimpArgs false
namespace Go.Proofs.YtdemgbmndijkkaaGreatDoor
open Go Go.Vc Go.Dig
theorem mkQ_rat (s : Bool) (m n : Nat) : mkQ s m n = (if s then -1 else 1) * ((m : Rat) / (n : Rat)) := by
  unfold mkQ
  cases s with
  | false => rw [if_neg (by decide), if_neg (by decide), Rat.mkRat_eq_div, Rat.one_mul]; rfl
  | true => rw [if_pos rfl, if_pos rfl, Rat.mkRat_eq_div, Rat.intCast_neg, Rat.intCast_natCast]; grind
theorem ab_mkQ (s : Bool) (m n : Nat) (hn : n ≠ 0) : An.ab (mkQ s m n) = (m : Rat) / (n : Rat) := by
  have h0 := An.div_nn (An.cast_nn m) (An.cast_lt (Nat.pos_of_ne_zero hn))
  rw [mkQ_rat]
  cases s with
  | false => rw [if_neg (by decide), Rat.one_mul, An.ab_of h0]
  | true => rw [if_pos rfl, show (-1 : Rat) * ((m : Rat) / (n : Rat)) = -((m : Rat) / (n : Rat)) by grind, An.ab_neg, An.ab_of h0]
/-- the absolute value by numerator and denominator -/
theorem ab_q (q : Rat) : An.ab q = (nu q : Rat) / (q.den : Rat) := by
  have := ab_mkQ (sg q) (nu q) q.den q.den_nz
  rwa [mkQ_self] at this
/-- a rounded number is on the grid -/
theorem grid_on {q : Rat} {p : Nat} {up : Bool} (h : An.ab (gridQ q p up) ≤ 1) : ∃ Y, OnG (gridQ q p up) p Y ∧ (Y : Rat) = ((2 ^ p : Nat) : Rat) * An.ab (gridQ q p up) ∧ nu (gridQ q p up) ≤ 2 ^ p ∧ (gridQ q p up).den ≤ 2 ^ p := by
  have hP : (2 ^ p : Nat) ≠ 0 := Nat.ne_of_gt (Nat.two_pow_pos p)
  have e := grid_eq q p up
  obtain ⟨N, hN⟩ : ∃ N, N = nu q * 2 ^ p / q.den + (if up = sg q ∨ nu q * 2 ^ p % q.den = 0 then 0 else 1) := ⟨_, rfl⟩
  rw [← hN] at e
  clear hN
  have ha := ab_mkQ (sg q) N (2 ^ p) hP
  rw [← e] at ha
  have hp := An.two_pos p
  rw [ha] at h ⊢
  have hNP : N ≤ 2 ^ p := by
    have := An.of_div_le hp h
    rw [Rat.one_mul] at this
    exact Rat.natCast_le_natCast.1 this
  have hle := mkQ_le (sg q) (m := N) hP
  rw [e]
  refine ⟨N, ⟨?_, hNP⟩, by grind, Nat.le_trans hle.1 hNP, hle.2⟩
  rw [nu_mkQ _ hP, den_mkQ _ hP]
  obtain ⟨a, ha⟩ := Nat.gcd_dvd_left N (2 ^ p)
  obtain ⟨b, hb⟩ := Nat.gcd_dvd_right N (2 ^ p)
  obtain ⟨g, hg⟩ : ∃ g, g = Nat.gcd N (2 ^ p) := ⟨_, rfl⟩
  have hg0 : 0 < g := by rw [hg]; exact Nat.gcd_pos_of_pos_right _ (Nat.two_pow_pos p)
  rw [← hg] at ha hb ⊢
  obtain ⟨P, hPd⟩ : ∃ P, P = 2 ^ p := ⟨_, rfl⟩
  rw [← hPd] at hb ⊢
  rw [ha, hb, Nat.mul_div_cancel_left _ hg0, Nat.mul_div_cancel_left _ hg0, Nat.mul_left_comm, Nat.mul_assoc]
theorem fits_pow {q : Rat} {p : Nat} (h1 : nu q ≤ 2 ^ p) (h2 : q.den ≤ 2 ^ p) (hp : p ≤ 2000) : fits q := ⟨Nat.le_trans (ln_le_of_le h1) (ln_two_pow_le (by omega)), Nat.le_trans (ln_le_of_le h2) (ln_two_pow_le (by omega))⟩
/-- the program's numbers on the way to a remainder -/
structure RestN (x f g kq y1 y2 lo hi : Rat) (w Y Z : Nat) (k : Int) : Prop where
  hk : kq = (k : Rat)
  f0 : nu f ≠ 0
  ff : fits f
  fg : fits g
  q1 : fits (x / f)
  q2 : fits (x / f + mkQ false 1 2)
  q3 : gridQ (x / f + mkQ false 1 2) 0 false = kq
  q4 : fits kq
  q5 : fits (kq * if k < 0 then f else g)
  q6 : fits (kq * if k < 0 then g else f)
  e1 : x - kq * (if k < 0 then f else g) = y1
  e2 : x - kq * (if k < 0 then g else f) = y2
  q7 : fits y1
  q8 : fits y2
  e3 : gridQ y1 w false = lo
  e4 : gridQ y2 w true = hi
  q9 : fits lo
  q10 : fits hi
  g1 : OnG lo w Y
  g2 : OnG hi w Z
theorem sz_fits {q : Rat} {k : Nat} (s : Sz k q) (hk : k ≤ 64) : fits q := ⟨Nat.le_trans s.num hk, Nat.le_trans s.den hk⟩
theorem grid_near (q : Rat) (p : Nat) : q - 1 / ((2 ^ p : Nat) : Rat) ≤ gridQ q p false ∧ gridQ q p true ≤ q + 1 / ((2 ^ p : Nat) : Rat) := by
  have hp := An.two_pos p
  have e : ((2 ^ p : Nat) : Rat) = (2 : Rat) ^ p := by rw [Rat.natCast_pow]; rfl
  rw [grid_div, grid_div, ← e]
  obtain ⟨V, hV⟩ : ∃ V, V = ((2 ^ p : Nat) : Rat) := ⟨_, rfl⟩
  rw [← hV] at hp ⊢
  rw [if_neg (by decide), if_pos rfl]
  have h1 := Rat.lt_floor_add_one (q * V)
  rw [Rat.intCast_add, show ((1 : Int) : Rat) = 1 from rfl] at h1
  have h2 := ceil_floor (q * V)
  have h3 := Rat.floor_le (q * V)
  constructor
  · exact An.le_div hp (by grind)
  · refine An.div_le hp ?_
    rcases h2 with h2 | h2
    · rw [h2]; grind
    · rw [h2, Rat.intCast_add, show ((1 : Int) : Rat) = 1 from rfl]; grind
theorem grid_floor (q : Rat) : gridQ q 0 false = ((q.floor : Int) : Rat) := by
  rw [grid_div, if_neg (by decide), Rat.pow_zero, Rat.mul_one]; grind
/-- THE REMAINDER: the program's numbers, and what they shut in -/
theorem rest_nums {x : Rat} {w : Nat} (h1 : 64 ≤ w) (h2 : w ≤ 192) (hx : An.ab x ≤ 4294967296) (hs : Sz 33 x) {f g : Rat} (hf : f = mkQ false (An.piA w).1 (2 ^ (w + 1))) (hg : g = mkQ false (An.piA w).2 (2 ^ (w + 1))) :
    ∃ (k : Int) (kq y1 y2 lo hi : Rat) (Y Z : Nat), RestN x f g kq y1 y2 lo hi w Y Z k ∧ -1 ≤ lo ∧ lo ≤ hi ∧ hi ≤ 1 ∧ (∀ m, 40 ≤ m → lo ≤ x - (k : Rat) * An.qt m ∧ x - (k : Rat) * An.qt m ≤ hi) ∧ (Y : Rat) = ((2 ^ w : Nat) : Rat) * An.ab lo ∧ (Z : Rat) = ((2 ^ w : Nat) : Rat) * An.ab hi := by
  obtain ⟨p1, p2⟩ := An.piA_le (w := w) (by omega)
  obtain ⟨f1, f2, f3, f4, f5⟩ := An.quarter h1 h2 (hf.trans (mkQ_pow2 _ _)) (hg.trans (mkQ_pow2 _ _))
  have hP : (2 ^ (w + 1) : Nat) ≠ 0 := Nat.ne_of_gt (Nat.two_pow_pos _)
  have sf : Sz 7 f := by
    rw [hf]
    have := mkQ_le false (m := (An.piA w).1) hP
    exact ⟨Nat.le_trans (ln_le_of_le (Nat.le_trans this.1 p1)) (ln_two_pow_le (by omega)), Nat.le_trans (ln_le_of_le this.2) (ln_two_pow_le (by omega))⟩
  have sg' : Sz 7 g := by
    rw [hg]
    have := mkQ_le false (m := (An.piA w).2) hP
    exact ⟨Nat.le_trans (ln_le_of_le (Nat.le_trans this.1 p2)) (ln_two_pow_le (by omega)), Nat.le_trans (ln_le_of_le this.2) (ln_two_pow_le (by omega))⟩
  have fn0 : nu f ≠ 0 := fun e => by
    have := nu_eq_zero.1 e
    rw [this] at f1
    exact absurd f1 (by grind)
  have half : mkQ false 1 2 = 1 / 2 := mkQ_pow2 1 1
  have sh : Sz 1 (mkQ false 1 2) := by
    have := mkQ_le false (m := 1) (n := 2) (by decide)
    exact ⟨Nat.le_trans (ln_le_of_le this.1) (by rw [ln_one _ two_le_B]; exact Nat.le_refl _), Nat.le_trans (ln_le_of_le this.2) (ln_two_pow_le (n := 1) (by omega))⟩
  have sd : Sz 40 (x / f) := by rw [Rat.div_def]; exact Sz.mul hs (Sz.inv sf fn0)
  have sy := Sz.add sd sh
  obtain ⟨k, hk⟩ : ∃ k, k = (x / f + mkQ false 1 2).floor := ⟨_, rfl⟩
  have k1 : (k : Rat) ≤ x / f + 1 / 2 := by rw [hk, ← half]; exact Rat.floor_le _
  have k2 : x / f + 1 / 2 ≤ (k : Rat) + 1 := by
    have := Rat.lt_floor_add_one (x / f + mkQ false 1 2)
    rw [← hk, half, Rat.intCast_add] at this
    exact Rat.le_of_lt this
  obtain ⟨r1, r2, r3⟩ := An.rest_small f1 f2 f3 f4 hx k1 k2
  have sk : Sz 2 (k : Rat) := by
    have : k.natAbs ≤ 4294967296 := by
      rw [ab_q, nu_int, den_int] at r1
      have : ((k.natAbs : Nat) : Rat) ≤ ((4294967296 : Nat) : Rat) := by
        rw [show ((1 : Nat) : Rat) = 1 from rfl] at r1
        have e : ((4294967296 : Nat) : Rat) = 4294967296 := rfl
        grind
      exact Rat.natCast_le_natCast.1 this
    exact ⟨by rw [nu_int]; exact Nat.le_trans (ln_le_of_le this) (ln_two_pow_le (n := 32) (by omega)), by rw [den_int, ln_one _ two_le_B]; omega⟩
  have sub : ∀ c, Sz 7 c → Sz 43 (x - (k : Rat) * c) := fun c sc => by
    rw [Rat.sub_eq_add_neg]
    exact (Sz.add hs (Sz.neg (Sz.mul sk sc))).mono (by omega)
  obtain ⟨c1, hc1⟩ : ∃ c, c = if k < 0 then f else g := ⟨_, rfl⟩
  obtain ⟨c2, hc2⟩ : ∃ c, c = if k < 0 then g else f := ⟨_, rfl⟩
  have s1 : Sz 7 c1 := by rw [hc1]; split <;> assumption
  have s2 : Sz 7 c2 := by rw [hc2]; split <;> assumption
  have b1 : An.ab (x - (k : Rat) * c1) ≤ 8 / 10 := by rw [hc1]; split <;> assumption
  have b2 : An.ab (x - (k : Rat) * c2) ≤ 8 / 10 := by rw [hc2]; split <;> assumption
  obtain ⟨y1, hy1⟩ : ∃ y, y = x - (k : Rat) * c1 := ⟨_, rfl⟩
  obtain ⟨y2, hy2⟩ : ∃ y, y = x - (k : Rat) * c2 := ⟨_, rfl⟩
  have t1 := sub c1 s1
  have t2 := sub c2 s2
  rw [← hy1] at b1 t1
  rw [← hy2] at b2 t2
  have hU : 1 / ((2 ^ w : Nat) : Rat) ≤ 1 / 10 := An.div_le (An.two_pos w) (by
    have : ((2 ^ 64 : Nat) : Rat) ≤ ((2 ^ w : Nat) : Rat) := Rat.natCast_le_natCast.2 (Nat.pow_le_pow_right (by decide) h1)
    rw [show ((2 ^ 64 : Nat) : Rat) = 18446744073709551616 from rfl] at this
    grind)
  have n1 := (grid_near y1 w).1
  have n2 := (grid_near y2 w).2
  have n3 := grid_le y1 w
  have n4 := le_grid y2 w
  have a1 := An.le_ab y1; have a2 := An.neg_le_ab y1; have a3 := An.le_ab y2; have a4 := An.neg_le_ab y2
  obtain ⟨lo, hlo⟩ : ∃ l, l = gridQ y1 w false := ⟨_, rfl⟩
  obtain ⟨hi, hhi⟩ : ∃ l, l = gridQ y2 w true := ⟨_, rfl⟩
  rw [← hlo] at n1 n3
  rw [← hhi] at n2 n4
  have u1 : An.ab (gridQ y1 w false) ≤ 1 := by rw [← hlo]; exact An.ab_le (by grind) (by grind)
  have u2 : An.ab (gridQ y2 w true) ≤ 1 := by rw [← hhi]; exact An.ab_le (by grind) (by grind)
  obtain ⟨Y, g1, g2, g3, g4⟩ := grid_on u1
  obtain ⟨Z, g5, g6, g7, g8⟩ := grid_on u2
  rw [← hlo] at g1 g2 g3 g4
  rw [← hhi] at g5 g6 g7 g8
  have shut := fun m hm => An.rest_shut (x := x) (k := k) (lo := lo) (hi := hi) (f5 m hm).1 (f5 m hm).2 (by rw [← hc1, ← hy1]; exact n3) (by rw [← hc2, ← hy2]; exact n4)
  refine ⟨k, (k : Rat), y1, y2, lo, hi, Y, Z, ⟨rfl, fn0, sz_fits sf (by omega), sz_fits sg' (by omega), sz_fits sd (by omega), sz_fits sy (by omega), by rw [grid_floor, ← hk], sz_fits sk (by omega), ?_, ?_, ?_, ?_, sz_fits t1 (by omega), sz_fits t2 (by omega), hlo.symm, hhi.symm, fits_pow g3 g4 (by omega), fits_pow g7 g8 (by omega), g1, g5⟩, by grind, Rat.le_trans (shut 40 (by omega)).1 (shut 40 (by omega)).2, by grind, shut, g2, g6⟩
  · rw [← hc1]; exact sz_fits (Sz.mul sk s1) (by omega)
  · rw [← hc2]; exact sz_fits (Sz.mul sk s2) (by omega)
  · rw [← hc1]; exact hy1.symm
  · rw [← hc2]; exact hy2.symm
end Go.Proofs.YtdemgbmndijkkaaGreatDoor