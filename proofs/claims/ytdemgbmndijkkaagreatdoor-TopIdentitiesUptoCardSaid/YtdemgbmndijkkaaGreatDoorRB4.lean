/- Cosine and sine by the remainder of an angle: plain mathematics. -/
import Derived.Test.YtdemgbmndijkkaaGreatDoorRA9
set_option linter.unusedVariables false
set_option linter.unusedSimpArgs false
namespace Go.An
/-- the sine's bounds behind k quarter turns, by those of the remainder -/
def selS (j : Nat) (c s : Rat × Rat) : Rat × Rat := if j = 0 then s else if j = 1 then c else if j = 2 then (-s.2, -s.1) else (-c.2, -c.1)
def selC (j : Nat) (c s : Rat × Rat) : Rat × Rat := if j = 0 then c else if j = 1 then (-s.2, -s.1) else if j = 2 then (-c.2, -c.1) else s
theorem q_sel {j : Nat} (hj : j < 4) {c s : Rat} {C S : Rat × Rat} (h1 : C.1 ≤ c) (h2 : c ≤ C.2) (h3 : S.1 ≤ s) (h4 : s ≤ S.2) :
    ((selC j C S).1 ≤ qC j c s ∧ qC j c s ≤ (selC j C S).2) ∧ (selS j C S).1 ≤ qS j c s ∧ qS j c s ≤ (selS j C S).2 := by
  have : j = 0 ∨ j = 1 ∨ j = 2 ∨ j = 3 := by omega
  rcases this with rfl | rfl | rfl | rfl <;> (simp [selC, selS, qC, qS]; grind)
theorem q_mod (k : Nat) (c s : Rat) : qC k c s = qC (k % 4) c s ∧ qS k c s = qS (k % 4) c s := by
  unfold qC qS
  rw [Nat.mod_mod]; exact ⟨rfl, rfl⟩
theorem q_back (k : Nat) (c s : Rat) : qC k c (-s) = qC ((4 - k % 4) % 4) c s ∧ - qS k c (-s) = qS ((4 - k % 4) % 4) c s := by
  unfold qC qS
  have : k % 4 = 0 ∨ k % 4 = 1 ∨ k % 4 = 2 ∨ k % 4 = 3 := by omega
  rcases this with h | h | h | h <;> simp [h] <;> grind
/-- cosine and sine by the remainder, whatever the sign of the number of turns -/
theorem turnsI (x : Rat) (k : Int) : Eq2 (fun _ n => Co x n) (fun m n => qC (k % 4).toNat (Co (x - (k : Rat) * qt m) n) (Si (x - (k : Rat) * qt m) n)) ∧
    Eq2 (fun _ n => Si x n) fun m n => qS (k % 4).toNat (Co (x - (k : Rat) * qt m) n) (Si (x - (k : Rat) * qt m) n) := by
  rcases Int.eq_nat_or_neg k with ⟨K, rfl | rfl⟩
  · obtain ⟨h1, h2⟩ := turns (fun m => x - ((K : Int) : Rat) * qt m) K
    have e : ∀ m, x - ((K : Int) : Rat) * qt m + (K : Rat) * qt m = x := fun m => by rw [Rat.intCast_natCast]; grind
    have ek : ((K : Int) % 4).toNat = K % 4 := by omega
    rw [ek]
    exact ⟨h1.of (fun m n => by rw [e]) fun m n => (q_mod K _ _).1.symm, h2.of (fun m n => by rw [e]) fun m n => (q_mod K _ _).2.symm⟩
  · obtain ⟨h1, h2⟩ := turns (fun m => -(x - ((-(K : Int) : Int) : Rat) * qt m)) K
    have e : ∀ m, -(x - ((-(K : Int) : Int) : Rat) * qt m) + (K : Rat) * qt m = -x := fun m => by rw [Rat.intCast_neg, Rat.intCast_natCast]; grind
    have ek : ((-(K : Int)) % 4).toNat = (4 - K % 4) % 4 := by omega
    rw [ek]
    constructor
    · refine h1.of (fun m n => by rw [e, Co_neg]) fun m n => ?_
      rw [Co_neg, Si_neg, (q_back K _ _).1]
    · refine (Eq2.neg h2).of (fun m n => by rw [e, Si_neg]; grind) fun m n => ?_
      rw [Co_neg, Si_neg, (q_back K _ _).2]
theorem trig_of {x : Rat} {k : Int} {lo hi : Rat} (hr : ∀ m, 40 ≤ m → lo ≤ x - (k : Rat) * qt m ∧ x - (k : Rat) * qt m ≤ hi) (h1 : -1 ≤ lo) (h2 : hi ≤ 1) {C S : Rat × Rat}
    (hS : ∀ n, 50 ≤ n → S.1 ≤ Si lo n ∧ Si hi n ≤ S.2) (hC : ∀ r, lo ≤ r → r ≤ hi → ∀ n, 50 ≤ n → C.1 ≤ Co r n ∧ Co r n ≤ C.2) :
    CosB x (selC (k % 4).toNat C S).1 (selC (k % 4).toNat C S).2 ∧ SinB x (selS (k % 4).toNat C S).1 (selS (k % 4).toNat C S).2 := by
  obtain ⟨t1, t2⟩ := turnsI x k
  have hj : (k % 4).toNat < 4 := by omega
  have key : ∀ m, 40 ≤ m → ∀ n, 50 ≤ n → _ := fun m hm n hn => by
    obtain ⟨a, b⟩ := hr m hm
    obtain ⟨s1, s2⟩ := hS n hn
    obtain ⟨c1, c2⟩ := hC _ a b n hn
    exact q_sel hj c1 c2 (Rat.le_trans s1 (Si_mono h1 a (by grind) n)) (Rat.le_trans (Si_mono (by grind) b h2 n) s2)
  refine ⟨⟨Le2.trans (Le2.of ⟨40, fun m hm => ⟨50, fun n hn => (key m hm n hn).1.1⟩⟩) (Eq2.symm t1).le, Le2.trans t1.le (Le2.of ⟨40, fun m hm => ⟨50, fun n hn => (key m hm n hn).1.2⟩⟩)⟩,
    ⟨Le2.trans (Le2.of ⟨40, fun m hm => ⟨50, fun n hn => (key m hm n hn).2.1⟩⟩) (Eq2.symm t2).le, Le2.trans t2.le (Le2.of ⟨40, fun m hm => ⟨50, fun n hn => (key m hm n hn).2.2⟩⟩)⟩⟩
/-- the remainder is small -/
theorem rest_small {x f g : Rat} {k : Int} (hf : 157 / 100 ≤ f) (hfg : f ≤ g) (hg : g ≤ 158 / 100) (hd : (g - f) * 1099511627776 ≤ 1) (hx : ab x ≤ 4294967296) (hk1 : (k : Rat) ≤ x / f + 1 / 2) (hk2 : x / f + 1 / 2 ≤ (k : Rat) + 1) :
    ab (k : Rat) ≤ 4294967296 ∧ ab (x - (k : Rat) * f) ≤ 8 / 10 ∧ ab (x - (k : Rat) * g) ≤ 8 / 10 := by
  have h0 : 0 < f := by grind
  have e : x / f * f = x := by grind
  have hx1 := le_ab x; have hx2 := neg_le_ab x
  obtain ⟨q, hq⟩ : ∃ q, q = x / f := ⟨_, rfl⟩
  rw [← hq] at e hk1 hk2
  have q1 : ab q ≤ 4294967296 / f := le_div h0 (by
    have : ab q * f = ab x := by rw [← e, ab_mul, ab_of (Rat.le_of_lt h0)]
    rw [this]; exact hx)
  have q2 : 4294967296 / f ≤ 2735648000 := div_le h0 (by
    have := mul_mono (show (0 : Rat) ≤ 2735648000 by grind) Rat.le_refl (show (0 : Rat) ≤ 157 / 100 by grind) hf
    grind)
  have q3 := le_ab q; have q4 := neg_le_ab q
  have k1 : ab (k : Rat) ≤ 4294967296 := ab_le (by grind) (by grind)
  have m1 := mul_nn (Rat.le_of_lt h0) (show 0 ≤ q + 1 / 2 - (k : Rat) by grind)
  have m2 := mul_nn (Rat.le_of_lt h0) (show 0 ≤ (k : Rat) + 1 - (q + 1 / 2) by grind)
  have a1 : ab (x - (k : Rat) * f) ≤ 79 / 100 := ab_le (by grind) (by grind)
  have a2 : ab ((k : Rat) * (g - f)) ≤ 1 / 200 := by
    rw [ab_mul, ab_of (show 0 ≤ g - f by grind)]
    have := mul_mono (ab_nn (k : Rat)) k1 (show 0 ≤ g - f by grind) (show g - f ≤ 1 / 1099511627776 by grind)
    grind
  refine ⟨k1, by grind, ?_⟩
  have := tri_ab (x - (k : Rat) * f) (-((k : Rat) * (g - f))) a1 (by rw [ab_neg]; exact a2)
  rw [show x - (k : Rat) * f + -((k : Rat) * (g - f)) = x - (k : Rat) * g by grind] at this
  grind
/-- the sine of a multiple of 2^-w, as the program has it -/
def sAt (low neg : Bool) (y w : Nat) : Rat :=
  (if neg then -1 else 1) * (((if low != neg then y * (wvA y w 1).1 / 2 ^ w else cd (y * (wvA y w 1).2) (2 ^ w) : Nat) : Rat) / ((2 ^ w : Nat) : Rat))
theorem sAt_ok {U r : Rat} {y w : Nat} {neg : Bool} (hU : U = ((2 ^ w : Nat) : Rat)) (hn : neg = decide (r < 0)) (hy : (y : Rat) = U * ab r) (h1 : ab r ≤ 1) {n : Nat} (hn5 : 50 ≤ n) : sAt true neg y w ≤ Si r n ∧ Si r n ≤ sAt false neg y w := by
  obtain ⟨a, b⟩ := sin_waves hU hy (ab_nn r) h1 hn5
  unfold sAt
  rw [← hU]
  by_cases h : r < 0
  · rw [hn, decide_eq_true h]
    rw [ab_np (by grind), Si_neg] at a b
    simp only [bne_self_eq_false, Bool.false_eq_true, if_false, if_true, show (false != true) = true from rfl]
    grind
  · rw [hn, decide_eq_false h]
    rw [ab_of (by grind)] at a b
    simp only [bne_self_eq_false, Bool.false_eq_true, if_false, if_true, show (true != false) = true from rfl]
    grind
/-- the cosine between two multiples of 2^-w, as the program has it -/
def cAt (ln hn : Bool) (a b w : Nat) : Rat × Rat :=
  (((wvA (max a b) w 0).1 : Rat) / ((2 ^ w : Nat) : Rat), ((wvA (if (ln = true ∧ hn = false) ∨ a = 0 ∨ b = 0 then 0 else min a b) w 0).2 : Rat) / ((2 ^ w : Nat) : Rat))
theorem cAt_ok {U lo hi : Rat} {a b w : Nat} {ln hn : Bool} (hU : U = ((2 ^ w : Nat) : Rat)) (h1 : ln = decide (lo < 0)) (h2 : hn = decide (hi < 0)) (ha : (a : Rat) = U * ab lo) (hb : (b : Rat) = U * ab hi) (hl : -1 ≤ lo) (hlh : lo ≤ hi) (hh : hi ≤ 1)
    {r : Rat} (hr1 : lo ≤ r) (hr2 : r ≤ hi) {n : Nat} (hn5 : 50 ≤ n) : (cAt ln hn a b w).1 ≤ Co r n ∧ Co r n ≤ (cAt ln hn a b w).2 := by
  have hp : 0 < U := by rw [hU]; exact two_pos w
  have hrn := ab_nn r
  rw [← Co_ab r n]
  unfold cAt
  rw [← hU]
  have l1 := le_ab lo; have l2 := neg_le_ab lo; have i1 := le_ab hi; have i2 := neg_le_ab hi
  have hal : ab lo ≤ 1 := ab_le (by grind) (by grind)
  have hbl : ab hi ≤ 1 := ab_le (by grind) (by grind)
  constructor
  · obtain ⟨q, hq, hq1, hq2⟩ : ∃ q, ((max a b : Nat) : Rat) = U * q ∧ ab r ≤ q ∧ q ≤ 1 := by
      have hd : 0 ≤ ab lo - ab hi ∨ 0 ≤ ab hi - ab lo := by grind
      rcases Nat.le_total a b with h | h
      · refine ⟨ab hi, by rw [Nat.max_eq_right h]; exact hb, ?_, hbl⟩
        have h3 : (a : Rat) ≤ (b : Rat) := Rat.natCast_le_natCast.2 h
        have h4 : ab lo ≤ ab hi := le_cancel hp (by grind)
        exact ab_le (by grind) (by grind)
      · refine ⟨ab lo, by rw [Nat.max_eq_left h]; exact ha, ?_, hal⟩
        have h3 : (b : Rat) ≤ (a : Rat) := Rat.natCast_le_natCast.2 h
        have h4 : ab hi ≤ ab lo := le_cancel hp (by grind)
        exact ab_le (by grind) (by grind)
    have hq0 : 0 ≤ q := by grind
    exact Rat.le_trans (cos_waves hU hq hq0 hq2 hn5).1 (Co_mono hrn hq1 hq2 n)
  · have hr1' : ab r ≤ 1 := ab_le (by grind) (by grind)
    have zero : ∀ c : Nat, c = 0 → Co (ab r) n ≤ ((wvA c w 0).2 : Rat) / U := fun c hc => by
      refine Rat.le_trans (Co_mono Rat.le_refl hrn hr1' n) (cos_waves hU (r := 0) (by rw [hc]; show ((0 : Nat) : Rat) = _; rw [show ((0 : Nat) : Rat) = 0 from rfl]; grind) Rat.le_refl (by grind) hn5).2
    by_cases c : (ln = true ∧ hn = false) ∨ a = 0 ∨ b = 0
    · rw [if_pos c]; exact zero 0 rfl
    · rw [if_neg c]
      simp only [not_or, not_and] at c
      obtain ⟨c1, c2, c3⟩ := c
      have a0 := cast_lt (Nat.pos_of_ne_zero c2)
      have b0 := cast_lt (Nat.pos_of_ne_zero c3)
      have lne : lo ≠ 0 := fun e => by rw [ha, e, ab_of Rat.le_refl] at a0; grind
      have hne : hi ≠ 0 := fun e => by rw [hb, e, ab_of Rat.le_refl] at b0; grind
      obtain ⟨q, hq, hq0, hq1⟩ : ∃ q, ((min a b : Nat) : Rat) = U * q ∧ 0 ≤ q ∧ q ≤ ab r := by
        by_cases hlo : lo < 0
        · have hhi : hi < 0 := by
            by_cases g : hi < 0
            · exact g
            · exact absurd (by rw [h2, decide_eq_false g]) (c1 (by rw [h1, decide_eq_true hlo]))
          have e1 : ab hi = -hi := ab_np (by grind)
          have e2 : ab lo = -lo := ab_np (by grind)
          have h3 : b ≤ a := Rat.natCast_le_natCast.1 (by rw [ha, hb, e1, e2]; have := mul_nn (Rat.le_of_lt hp) (show 0 ≤ hi - lo by grind); grind)
          exact ⟨ab hi, by rw [Nat.min_eq_right h3]; exact hb, ab_nn _, by rw [ab_np (x := r) (by grind)]; grind⟩
        · have e1 : ab hi = hi := ab_of (by grind)
          have e2 : ab lo = lo := ab_of (by grind)
          have h3 : a ≤ b := Rat.natCast_le_natCast.1 (by rw [ha, hb, e1, e2]; have := mul_nn (Rat.le_of_lt hp) (show 0 ≤ hi - lo by grind); grind)
          exact ⟨ab lo, by rw [Nat.min_eq_left h3]; exact ha, ab_nn _, by rw [ab_of (x := r) (by grind)]; grind⟩
      exact Rat.le_trans (Co_mono hq0 hq1 hr1' n) (cos_waves hU hq hq0 (by grind) hn5).2
end Go.An
/- The program's whole numbers stay small, and its differences are none below nought: plain mathematics. -/
namespace Go.An
theorem cd_le {a b d : Nat} (h : a ≤ b * d) (hd : 0 < d) : cd a d ≤ b := by
  have h1 := Nat.div_add_mod a d
  unfold cd
  split
  · rw [Nat.add_zero]
    exact Nat.le_of_mul_le_mul_right (Nat.le_trans (Nat.div_mul_le_self a d) h) hd
  · rename_i e
    rcases Nat.lt_or_ge (a / d) b with g | g
    · omega
    · exfalso
      have h2 := Nat.mul_le_mul_left d g
      rw [Nat.mul_comm d b] at h2
      omega
theorem div_le_nat {a b d : Nat} (h : a ≤ b * d) (hd : 0 < d) : a / d ≤ b :=
  Nat.le_of_mul_le_mul_right (Nat.le_trans (Nat.div_mul_le_self a d) h) hd
theorem pow8 (w : Nat) : 2 ^ (w + 8) = 256 * 2 ^ w := by rw [Nat.pow_add]; omega
theorem exp_part {y v U : Nat} (hy : y ≤ 64 * U) (hv : v ≤ 2 * U) : y * v ≤ U * (256 * U) := by
  have := Nat.mul_le_mul hy hv
  rw [show 64 * U * (2 * U) = 128 * (U * U) by rw [Nat.mul_mul_mul_comm]] at this
  rw [show U * (256 * U) = 256 * (U * U) by rw [Nat.mul_left_comm]]
  omega
theorem expLo_le2 {yl w : Nat} (hy : yl ≤ 64 * 2 ^ w) : ∀ k, expLo yl w k ≤ 2 * 2 ^ w
  | 0 => by rw [expLo]; omega
  | k + 1 => by
    have h1 : yl * expLo yl w k / 2 ^ (w + 8) ≤ 2 ^ w := div_le_nat (by rw [pow8]; exact exp_part hy (expLo_le2 hy k)) (Nat.two_pow_pos _)
    have h2 := Nat.div_le_self (yl * expLo yl w k / 2 ^ (w + 8)) (40 - k)
    rw [expLo]; omega
theorem expHi_le2 {yh w : Nat} (hy : yh ≤ 64 * 2 ^ w) : ∀ k, k ≤ 40 → expHi yh w k ≤ 2 * 2 ^ w
  | 0, _ => by rw [expHi]; omega
  | k + 1, hk => by
    have h1 : cd (yh * expHi yh w k) (2 ^ (w + 8)) ≤ 2 ^ w := cd_le (by rw [pow8]; exact exp_part hy (expHi_le2 hy k (by omega))) (Nat.two_pow_pos _)
    have h2 : cd (cd (yh * expHi yh w k) (2 ^ (w + 8))) (40 - k) ≤ 2 ^ w := cd_le (Nat.le_trans h1 (Nat.le_mul_of_pos_right _ (by omega))) (by omega)
    rw [expHi]; omega
theorem sq_bound {v w e : Nat} (hv : v ≤ 2 ^ (w + e)) : v * v ≤ 2 ^ (w + 2 * e) * 2 ^ w := by
  have := Nat.mul_le_mul hv hv
  rw [← Nat.pow_add] at this ⊢
  rwa [show w + 2 * e + w = w + e + (w + e) by omega]
theorem sqLo_le {w v : Nat} (hv : v ≤ 2 ^ (w + 1)) : ∀ k, sqLo w v k ≤ 2 ^ (w + 2 ^ k)
  | 0 => hv
  | k + 1 => by
    rw [sqLo, Nat.pow_succ 2 k, Nat.mul_comm (2 ^ k) 2]
    exact div_le_nat (sq_bound (sqLo_le hv k)) (Nat.two_pow_pos _)
theorem sqHi_le {w v : Nat} (hv : v ≤ 2 ^ (w + 1)) : ∀ k, sqHi w v k ≤ 2 ^ (w + 2 ^ k)
  | 0 => hv
  | k + 1 => by
    rw [sqHi, Nat.pow_succ 2 k, Nat.mul_comm (2 ^ k) 2]
    exact cd_le (sq_bound (sqHi_le hv k)) (Nat.two_pow_pos _)
theorem pow_k_le {w k : Nat} (hk : k ≤ 8) : (2 : Nat) ^ (w + 2 ^ k) ≤ 2 ^ (w + 256) := by
  have : 2 ^ k ≤ 2 ^ 8 := Nat.pow_le_pow_right (by decide) hk
  exact Nat.pow_le_pow_right (by decide) (by omega)
theorem expHi_ge (yh w : Nat) (k : Nat) : 2 ^ w ≤ expHi yh w k := by
  cases k with
  | zero => rw [expHi]; omega
  | succ k => exact Nat.le_add_right _ _
theorem sqHi_ge {w v : Nat} (h : 2 ^ w ≤ v) : ∀ k, 2 ^ w ≤ sqHi w v k
  | 0 => h
  | k + 1 => by
    have := sqHi_ge h k
    rw [sqHi, cd]
    exact Nat.le_trans ((Nat.le_div_iff_mul_le (Nat.two_pow_pos w)).2 (Nat.mul_le_mul this this)) (Nat.le_add_right _ _)
theorem log_part {s v o U : Nat} (hs : 2 * s ≤ U) (hv : v ≤ 2 * U) (ho : 1 ≤ o) : U * U + s * v * o ≤ 2 * U * (o * U) := by
  have h1 := Nat.mul_le_mul hs hv
  have h2 : s * v ≤ U * U := by
    rw [show 2 * s * v = 2 * (s * v) by rw [Nat.mul_assoc], show U * (2 * U) = 2 * (U * U) by rw [Nat.mul_left_comm]] at h1
    omega
  have h3 := Nat.mul_le_mul_right o h2
  have h4 : U * U ≤ U * U * o := Nat.le_mul_of_pos_right _ ho
  rw [show 2 * U * (o * U) = 2 * (U * U * o) by rw [Nat.mul_assoc, Nat.mul_assoc, Nat.mul_comm o U]]
  omega
theorem logLo_le2 {sl w : Nat} (hs : 2 * sl ≤ 2 ^ w) : ∀ k, logLo sl w k ≤ 2 * 2 ^ w
  | 0 => by rw [logLo]; have := Nat.div_le_self (2 ^ w) 111; omega
  | k + 1 => by
    rw [logLo, show 2 * w = w + w by omega, Nat.pow_add]
    exact div_le_nat (log_part hs (logLo_le2 hs k) (by omega)) (Nat.mul_pos (by omega) (Nat.two_pow_pos w))
theorem logHi_le2 {sh w : Nat} (hs : 2 * sh ≤ 2 ^ w) : ∀ k, logHi sh w k ≤ 2 * 2 ^ w
  | 0 => by rw [logHi]; exact cd_le (by omega) (by omega)
  | k + 1 => by
    rw [logHi, show 2 * w = w + w by omega, Nat.pow_add]
    exact cd_le (log_part hs (logHi_le2 hs k) (by omega)) (Nat.mul_pos (by omega) (Nat.two_pow_pos w))
theorem sq_half {a U : Nat} (h : 2 * a ≤ U) : 2 * (a * a / U) ≤ U ∧ (0 < U → 2 * cd (a * a) U ≤ U) := by
  have h2 : a * a ≤ a * U := Nat.mul_le_mul_left a (by omega)
  refine ⟨?_, fun hU => ?_⟩
  · rcases Nat.eq_zero_or_pos U with e | e
    · rw [e, Nat.div_zero]; omega
    · have := div_le_nat h2 e; omega
  · have := cd_le h2 hU; omega
theorem logs_le {al ah w : Nat} (h1 : 2 * al ≤ 2 ^ w) (h2 : 2 * ah ≤ 2 ^ w) : (logsA al ah w).1 ≤ 2 * 2 ^ w ∧ (logsA al ah w).2 ≤ 2 * 2 ^ w := by
  have s1 := (sq_half h1).1
  have s2 := (sq_half h2).2 (Nat.two_pow_pos w)
  have p : ∀ a v : Nat, 2 * a ≤ 2 ^ w → v ≤ 2 * 2 ^ w → a * v * 2 ≤ 2 * 2 ^ w * 2 ^ w := fun a v ha hv => by
    have := Nat.mul_le_mul ha hv
    rw [show 2 * a * v = a * v * 2 by rw [Nat.mul_assoc, Nat.mul_comm], show 2 ^ w * (2 * 2 ^ w) = 2 * 2 ^ w * 2 ^ w by rw [← Nat.mul_assoc, Nat.mul_comm (2 ^ w) 2]] at this
    exact this
  exact ⟨div_le_nat (p _ _ h1 (logLo_le2 s1 55)) (Nat.two_pow_pos w), cd_le (p _ _ h2 (logHi_le2 s2 55)) (Nat.two_pow_pos w)⟩
theorem at_part {v d U : Nat} (h1 : 1 ≤ d) : U * U - v ≤ U * (d * U) := by
  have : U * U ≤ U * (d * U) := Nat.mul_le_mul_left U (Nat.le_mul_of_pos_left U h1)
  omega
theorem atP_le {sl sh w : Nat} : ∀ k, (atP sl sh w k).1 ≤ 2 ^ w ∧ (atP sl sh w k).2 ≤ 2 ^ w
  | 0 => by
    rw [atP]
    exact ⟨div_le_nat (by omega) (by omega), cd_le (by omega) (by omega)⟩
  | k + 1 => by
    rw [atP, show 2 * w = w + w by omega, Nat.pow_add]
    exact ⟨div_le_nat (at_part (by omega)) (Nat.mul_pos (by omega) (Nat.two_pow_pos w)), cd_le (at_part (by omega)) (Nat.mul_pos (by omega) (Nat.two_pow_pos w))⟩
/-- a quotient, rounded up, times the divisor's part -/
theorem cd_times {a c U : Nat} (h : a ≤ U * U) (hc : 0 < c) (hU : 0 < U) : cd a (c * U) * c ≤ U + c := by
  have h1 : a / (c * U) * c ≤ U := by
    have h2 := Nat.le_trans (Nat.div_mul_le_self a (c * U)) h
    rw [← Nat.mul_assoc] at h2
    exact Nat.le_of_mul_le_mul_right h2 hU
  unfold cd
  split
  · rw [Nat.add_zero]; omega
  · rw [Nat.add_mul, Nat.one_mul]; omega
theorem atP_odd {sl sh w : Nat} : ∀ k, k ≤ 39 → (atP sl sh w k).2 * (2 * (39 - k) + 1) ≤ 2 ^ w + (2 * (39 - k) + 1)
  | 0, _ => by
    rw [atP]
    show cd (2 ^ w) 79 * 79 ≤ 2 ^ w + 79
    have h1 := Nat.div_mul_le_self (2 ^ w) 79
    unfold cd
    split <;> omega
  | k + 1, hk => by
    rw [atP, show 39 - (k + 1) = 38 - k by omega, show 2 * w = w + w by omega, Nat.pow_add]
    exact cd_times (Nat.sub_le _ _) (by omega) (Nat.two_pow_pos w)

theorem atP_odd1 {sl sh w : Nat} : ∀ k, k ≤ 39 → (atP sl sh w k).1 * (2 * (39 - k) + 1) ≤ 2 ^ w + (2 * (39 - k) + 1)
  | 0, _ => by
    rw [atP]
    show (2 ^ w * 81 - sh * 79) / (79 * 81) * 79 ≤ 2 ^ w + 79
    have h1 := Nat.div_mul_le_self (2 ^ w * 81 - sh * 79) (79 * 81)
    omega
  | k + 1, hk => by
    rw [atP, show 39 - (k + 1) = 38 - k by omega, show 2 * w = w + w by omega, Nat.pow_add]
    have h2 := Nat.le_trans (Nat.div_mul_le_self (2 ^ w * 2 ^ w - sh * (atP sl sh w k).2 * (2 * (38 - k) + 1)) ((2 * (38 - k) + 1) * 2 ^ w)) (Nat.sub_le _ _)
    rw [← Nat.mul_assoc] at h2
    have := Nat.le_of_mul_le_mul_right h2 (Nat.two_pow_pos w)
    exact Nat.le_trans this (Nat.le_add_right _ _)
/-- the subtrahends of the arctangent's series are not too great -/
theorem at_sub {sh w k v : Nat} (hk : k < 39) (hs : 2 * sh ≤ 2 ^ w) (hw : 7 ≤ w) (hv : v * (2 * (39 - k) + 1) ≤ 2 ^ w + (2 * (39 - k) + 1)) : sh * v * (2 * (38 - k) + 1) ≤ 2 ^ (2 * w) := by
  have h128 : 2 ^ 7 ≤ 2 ^ w := Nat.pow_le_pow_right (by decide) hw
  have h1 : v * (2 * (38 - k) + 1) ≤ 2 * 2 ^ w := by
    have : v * (2 * (38 - k) + 1) ≤ v * (2 * (39 - k) + 1) := Nat.mul_le_mul_left v (by omega)
    omega
  rw [Nat.mul_assoc, show 2 * w = w + w by omega, Nat.pow_add]
  have h2 := Nat.mul_le_mul_left sh h1
  have h3 := Nat.mul_le_mul_right (2 ^ w) hs
  rw [show 2 * sh * 2 ^ w = sh * (2 * 2 ^ w) by rw [Nat.mul_comm 2 sh, Nat.mul_assoc]] at h3
  omega
theorem wvP_le {sl sh w g : Nat} : ∀ k, (wvP sl sh w g k).1 ≤ 2 ^ w ∧ (wvP sl sh w g k).2 ≤ 2 ^ w
  | 0 => ⟨Nat.zero_le _, Nat.le_refl _⟩
  | k + 1 => by
    rw [wvP, show 2 * w = w + w by omega, Nat.pow_add]
    obtain ⟨d, hd⟩ : ∃ d, d = (2 * (23 - k) + g + 1) * (2 * (23 - k) + g + 2) := ⟨_, rfl⟩
    have hd0 : 0 < d := by rw [hd]; exact Nat.mul_pos (by omega) (by omega)
    rw [← hd]
    have p : ∀ v, 2 ^ w * 2 ^ w * d - v ≤ 2 ^ w * (d * 2 ^ w) := fun v => by
      rw [show 2 ^ w * (d * 2 ^ w) = 2 ^ w * 2 ^ w * d by rw [Nat.mul_assoc, Nat.mul_comm d]]
      exact Nat.sub_le _ _
    exact ⟨div_le_nat (p _) (Nat.mul_pos hd0 (Nat.two_pow_pos w)), cd_le (p _) (Nat.mul_pos hd0 (Nat.two_pow_pos w))⟩
theorem wv_sub {s v w d : Nat} (hs : s ≤ 2 ^ w) (hv : v ≤ 2 ^ w) (hd : 0 < d) : s * v ≤ 2 ^ (2 * w) * d := by
  have := Nat.mul_le_mul hs hv
  rw [show 2 * w = w + w by omega, Nat.pow_add]
  exact Nat.le_trans this (Nat.le_mul_of_pos_right _ hd)
theorem sq_le_unit {y w : Nat} (h : y ≤ 2 ^ w) : y * y / 2 ^ w ≤ 2 ^ w ∧ cd (y * y) (2 ^ w) ≤ 2 ^ w :=
  ⟨div_le_nat (Nat.mul_le_mul h h) (Nat.two_pow_pos w), cd_le (Nat.mul_le_mul h h) (Nat.two_pow_pos w)⟩
theorem wvA_le (y w g : Nat) : (wvA y w g).1 ≤ 2 ^ w ∧ (wvA y w g).2 ≤ 2 ^ w := wvP_le 24
end Go.An
/- The logarithm between the program's bounds: plain mathematics. -/
namespace Go.An
/-- rounding from multiples of 2^-w to multiples of 2^-p -/
theorem round_dn {X w p : Nat} (h : p ≤ w) : ((X / 2 ^ (w - p) : Nat) : Rat) / ((2 ^ p : Nat) : Rat) ≤ (X : Rat) / ((2 ^ w : Nat) : Rat) := by
  have e : ((2 ^ w : Nat) : Rat) = ((2 ^ (w - p) : Nat) : Rat) * ((2 ^ p : Nat) : Rat) := by rw [← Rat.natCast_mul, ← Nat.pow_add, show w - p + p = w by omega]
  have h1 := q_le (Nat.div_mul_le_self X (2 ^ (w - p)))
  have p1 := two_pos p
  have p2 := two_pos (w - p)
  refine div_le p1 ?_
  rw [e, show (X : Rat) / (((2 ^ (w - p) : Nat) : Rat) * ((2 ^ p : Nat) : Rat)) * ((2 ^ p : Nat) : Rat) = (X : Rat) / ((2 ^ (w - p) : Nat) : Rat) by grind]
  exact le_div p2 h1
theorem round_up {X w p : Nat} (h : p ≤ w) : (X : Rat) / ((2 ^ w : Nat) : Rat) ≤ ((cd X (2 ^ (w - p)) : Nat) : Rat) / ((2 ^ p : Nat) : Rat) := by
  have e : ((2 ^ w : Nat) : Rat) = ((2 ^ (w - p) : Nat) : Rat) * ((2 ^ p : Nat) : Rat) := by rw [← Rat.natCast_mul, ← Nat.pow_add, show w - p + p = w by omega]
  have h1 := q_ge (cd_ge (a := X) (Nat.two_pow_pos (w - p)))
  have p1 := two_pos p
  have p2 := two_pos (w - p)
  refine le_div p1 ?_
  rw [e, show (X : Rat) / (((2 ^ (w - p) : Nat) : Rat) * ((2 ^ p : Nat) : Rat)) * ((2 ^ p : Nat) : Rat) = (X : Rat) / ((2 ^ (w - p) : Nat) : Rat) by grind]
  exact div_le p2 h1
/-- the two series of a logarithm -/
theorem log_two {w : Nat} (hw : 1 ≤ w) : 2 * (2 ^ w / 3) ≤ 2 ^ w ∧ 2 * cd (2 ^ w) 3 ≤ 2 ^ w ∧
    Lb (lg 2) (((logsA (2 ^ w / 3) (cd (2 ^ w) 3) w).1 : Rat) / ((2 ^ w : Nat) : Rat)) ∧ Ub (lg 2) (((logsA (2 ^ w / 3) (cd (2 ^ w) 3) w).2 : Rat) / ((2 ^ w : Nat) : Rat)) := by
  obtain ⟨a, b⟩ := part_shut (w := w) (n := 3) rfl (by omega)
  have e : zt 2 = 1 / 3 := by unfold zt; grind
  have e3 : ((3 : Nat) : Rat) = 3 := rfl
  rw [e3] at a b
  have := logsA_ok (w := w) rfl (z := 1 / 3) (by grind) Rat.le_refl a b
  rw [← e] at this
  have ew : 2 ^ w = 2 ^ (w - 1) * 2 := by rw [← Nat.pow_succ]; congr 1; omega
  refine ⟨by omega, ?_, this⟩
  have := cd_le (a := 2 ^ w) (b := 2 ^ (w - 1)) (d := 3) (by omega) (by omega)
  omega
theorem log_frac {N M w : Nat} (hw : 1 ≤ w) (h1 : M ≤ N) (h2 : N ≤ 2 * M) (h0 : 0 < M) :
    2 * ((N - M) * 2 ^ w / (N + M)) ≤ 2 ^ w ∧ 2 * cd ((N - M) * 2 ^ w) (N + M) ≤ 2 ^ w ∧ 1 ≤ (N : Rat) / (M : Rat) ∧
    Lb (lg ((N : Rat) / (M : Rat))) (((logsA ((N - M) * 2 ^ w / (N + M)) (cd ((N - M) * 2 ^ w) (N + M)) w).1 : Rat) / ((2 ^ w : Nat) : Rat)) ∧
    Ub (lg ((N : Rat) / (M : Rat))) (((logsA ((N - M) * 2 ^ w / (N + M)) (cd ((N - M) * 2 ^ w) (N + M)) w).2 : Rat) / ((2 ^ w : Nat) : Rat)) := by
  have hs : 0 < N + M := by omega
  have hM := cast_lt h0
  have hS := cast_lt hs
  have ew : 2 ^ w = 2 ^ (w - 1) * 2 := by rw [← Nat.pow_succ]; congr 1; omega
  have hh : (N - M) * 2 ^ w ≤ 2 ^ (w - 1) * (N + M) := by
    rw [ew, Nat.mul_comm (N - M), Nat.mul_assoc]
    exact Nat.mul_le_mul_left _ (by omega)
  have k1 := div_le_nat hh hs
  have k2 := cd_le hh hs
  have c1 : ((N - M : Nat) : Rat) + (M : Rat) = (N : Rat) := by rw [← Rat.natCast_add]; congr 1; omega
  have c2 : ((N + M : Nat) : Rat) = (N : Rat) + (M : Rat) := Rat.natCast_add _ _
  have hNM : (M : Rat) ≤ (N : Rat) := Rat.natCast_le_natCast.2 h1
  have hN2 : (N : Rat) ≤ 2 * (M : Rat) := by
    have : (N : Rat) ≤ ((2 * M : Nat) : Rat) := Rat.natCast_le_natCast.2 h2
    rw [Rat.natCast_mul] at this; exact this
  have hz : zt ((N : Rat) / (M : Rat)) = ((N - M : Nat) : Rat) / ((N + M : Nat) : Rat) := by
    have a1 : (M : Rat) ≠ 0 := by grind
    have a2 : (N : Rat) + (M : Rat) ≠ 0 := by grind
    rw [show ((N - M : Nat) : Rat) = (N : Rat) - (M : Rat) by grind, c2]
    unfold zt
    rw [show (N : Rat) / (M : Rat) - 1 = ((N : Rat) - (M : Rat)) / (M : Rat) by grind, show (N : Rat) / (M : Rat) + 1 = ((N : Rat) + (M : Rat)) / (M : Rat) by grind]
    rw [Rat.div_def, Rat.div_def, Rat.div_def, Rat.div_def, Rat.inv_mul_rev, Rat.inv_inv]; grind
  have hz0 : 0 ≤ ((N - M : Nat) : Rat) / ((N + M : Nat) : Rat) := div_nn (cast_nn _) hS
  have hz3 : ((N - M : Nat) : Rat) / ((N + M : Nat) : Rat) ≤ 1 / 3 := div_le hS (by rw [c2]; grind)
  have b1 := q_le (Nat.div_mul_le_self ((N - M) * 2 ^ w) (N + M))
  have b2 := q_ge (cd_ge (a := (N - M) * 2 ^ w) hs)
  rw [Rat.natCast_mul] at b1 b2
  have := logsA_ok (w := w) rfl hz0 hz3 (al := (N - M) * 2 ^ w / (N + M)) (ah := cd ((N - M) * 2 ^ w) (N + M))
    (by rw [show ((2 ^ w : Nat) : Rat) * (((N - M : Nat) : Rat) / ((N + M : Nat) : Rat)) = ((N - M : Nat) : Rat) * ((2 ^ w : Nat) : Rat) / ((N + M : Nat) : Rat) by grind]; exact le_div hS b1)
    (by rw [show ((2 ^ w : Nat) : Rat) * (((N - M : Nat) : Rat) / ((N + M : Nat) : Rat)) = ((N - M : Nat) : Rat) * ((2 ^ w : Nat) : Rat) / ((N + M : Nat) : Rat) by grind]; exact div_le hS b2)
  rw [← hz] at this
  exact ⟨by omega, by omega, le_div hM (by grind), this⟩
/-- the logarithm's bounds, where the number is at least 1 -/
theorem log_up {num den n w p : Nat} (hw : 1 ≤ w) (hp : p ≤ w) (h1 : den * 2 ^ n ≤ num) (h2 : num ≤ 2 * (den * 2 ^ n)) (h0 : 0 < den) {A B C E : Nat}
    (hA : A = (logsA (2 ^ w / 3) (cd (2 ^ w) 3) w).1) (hB : B = (logsA (2 ^ w / 3) (cd (2 ^ w) 3) w).2)
    (hC : C = (logsA ((num - den * 2 ^ n) * 2 ^ w / (num + den * 2 ^ n)) (cd ((num - den * 2 ^ n) * 2 ^ w) (num + den * 2 ^ n)) w).1) (hE : E = (logsA ((num - den * 2 ^ n) * 2 ^ w / (num + den * 2 ^ n)) (cd ((num - den * 2 ^ n) * 2 ^ w) (num + den * 2 ^ n)) w).2) :
    LogB ((num : Rat) / (den : Rat)) ((((A * n + C) / 2 ^ (w - p) : Nat) : Rat) / ((2 ^ p : Nat) : Rat)) (((cd (B * n + E) (2 ^ (w - p)) : Nat) : Rat) / ((2 ^ p : Nat) : Rat)) := by
  have hM : 0 < den * 2 ^ n := Nat.mul_pos h0 (Nat.two_pow_pos n)
  obtain ⟨-, -, l1, l2⟩ := log_two hw
  obtain ⟨-, -, u1, l3, l4⟩ := log_frac hw h1 h2 hM
  rw [← hA] at l1
  rw [← hB] at l2
  rw [← hC] at l3
  rw [← hE] at l4
  have hd := cast_lt h0
  have hn := two_pos n
  have := (log_split u1 l1 l2 l3 l4 n).1
  rw [show ((2 ^ n : Nat) : Rat) * ((num : Rat) / ((den * 2 ^ n : Nat) : Rat)) = (num : Rat) / (den : Rat) by rw [Rat.natCast_mul]; grind] at this
  have r1 := round_dn (X := A * n + C) hp
  have r2 := round_up (X := B * n + E) hp
  have hU := two_pos w
  refine this.mono (Rat.le_trans r1 ?_) (Rat.le_trans ?_ r2)
  · rw [Rat.natCast_add, Rat.natCast_mul]; grind
  · rw [Rat.natCast_add, Rat.natCast_mul]; grind
/-- the logarithm's bounds, where the number is below 1 -/
theorem log_dn {num den n w : Nat} (hw : 1 ≤ w) (h1 : den ≤ num * 2 ^ n) (h2 : num * 2 ^ n ≤ 2 * den) (h0 : 0 < den) {A B C E : Nat}
    (hA : A = (logsA (2 ^ w / 3) (cd (2 ^ w) 3) w).1) (hB : B = (logsA (2 ^ w / 3) (cd (2 ^ w) 3) w).2)
    (hC : C = (logsA ((num * 2 ^ n - den) * 2 ^ w / (num * 2 ^ n + den)) (cd ((num * 2 ^ n - den) * 2 ^ w) (num * 2 ^ n + den)) w).1) (hE : E = (logsA ((num * 2 ^ n - den) * 2 ^ w / (num * 2 ^ n + den)) (cd ((num * 2 ^ n - den) * 2 ^ w) (num * 2 ^ n + den)) w).2)
    {lo hi : Rat} (hlo : lo ≤ (C : Rat) / ((2 ^ w : Nat) : Rat) - ((B * n : Nat) : Rat) / ((2 ^ w : Nat) : Rat)) (hhi : (E : Rat) / ((2 ^ w : Nat) : Rat) - ((A * n : Nat) : Rat) / ((2 ^ w : Nat) : Rat) ≤ hi) :
    LogB ((num : Rat) / (den : Rat)) lo hi := by
  obtain ⟨-, -, l1, l2⟩ := log_two hw
  obtain ⟨-, -, u1, l3, l4⟩ := log_frac hw h1 h2 h0
  rw [← hA] at l1
  rw [← hB] at l2
  rw [← hC] at l3
  rw [← hE] at l4
  have hd := cast_lt h0
  have hn := two_pos n
  have := (log_split u1 l1 l2 l3 l4 n).2
  rw [show (((num * 2 ^ n : Nat) : Rat) / (den : Rat)) / ((2 ^ n : Nat) : Rat) = (num : Rat) / (den : Rat) by rw [Rat.natCast_mul]; grind] at this
  rw [Rat.natCast_mul] at hlo hhi
  exact this.mono (Rat.le_trans hlo (by grind)) (Rat.le_trans (by grind) hhi)
end Go.An
/- The bounds of a quarter turn, as whole numbers: plain mathematics. -/
namespace Go.An
theorem atA_le (al ah w : Nat) : (atA al ah w).1 ≤ al ∧ (atA al ah w).2 ≤ ah := by
  have h := atP_le (sl := al * al / 2 ^ w) (sh := cd (ah * ah) (2 ^ w)) (w := w) 39
  exact ⟨div_le_nat (Nat.mul_le_mul_left al h.1) (Nat.two_pow_pos w), cd_le (Nat.mul_le_mul_left ah h.2) (Nat.two_pow_pos w)⟩
theorem piChk_at {w : Nat} (h1 : 64 ≤ w) (h2 : w ≤ 192) : (atA (2 ^ w / 239) (cd (2 ^ w) 239) w).2 * 4 ≤ (atA (2 ^ w / 5) (cd (2 ^ w) 5) w).1 * 16 ∧ (atA (2 ^ w / 239) (cd (2 ^ w) 239) w).1 * 4 ≤ (atA (2 ^ w / 5) (cd (2 ^ w) 5) w).2 * 16 ∧
    157 * 2 ^ (w + 1) ≤ 100 * (piA w).1 ∧ 100 * (piA w).2 ≤ 158 * 2 ^ (w + 1) ∧ ((piA w).2 - (piA w).1) * 2 ^ 40 ≤ 2 ^ (w + 1) := by
  have := piChk_all (w - 64) (by omega)
  rw [show w - 64 + 64 = w by omega] at this
  unfold piChk at this
  simp only [Bool.and_eq_true, decide_eq_true_eq] at this
  exact ⟨this.1.1.1.1, this.1.1.1.2, this.1.1.2, this.1.2, this.2⟩
theorem piA_le {w : Nat} (hw : 3 ≤ w) : (piA w).1 ≤ 2 ^ (w + 4) ∧ (piA w).2 ≤ 2 ^ (w + 4) := by
  have h1 := (atA_le (2 ^ w / 5) (cd (2 ^ w) 5) w).1
  have h2 := (atA_le (2 ^ w / 5) (cd (2 ^ w) 5) w).2
  have h3 : cd (2 ^ w) 5 ≤ 2 ^ w := cd_le (by omega) (by omega)
  have h4 := Nat.div_le_self (2 ^ w) 5
  have h5 : 2 ^ (w + 4) = 16 * 2 ^ w := by rw [Nat.pow_add]; omega
  unfold piA
  exact ⟨by show _ - _ ≤ _; omega, by show _ - _ ≤ _; omega⟩
theorem half_part {w n : Nat} (hn : 3 ≤ n) (hw : 1 ≤ w) : 2 * (2 ^ w / n) ≤ 2 ^ w ∧ 2 * cd (2 ^ w) n ≤ 2 ^ w := by
  have ew : 2 ^ w = 2 ^ (w - 1) * 2 := by rw [← Nat.pow_succ]; congr 1; omega
  have hp := Nat.two_pow_pos (w - 1)
  have k : 2 ^ w ≤ 2 ^ (w - 1) * n := by rw [ew]; exact Nat.mul_le_mul_left _ (by omega)
  have h1 := div_le_nat k (by omega)
  have h2 := cd_le k (by omega)
  omega
end Go.An
/- A quarter turn between the program's bounds: plain mathematics. -/
namespace Go.An
theorem piA_lo {w m : Nat} (h1 : 64 ≤ w) (h2 : w ≤ 192) (hm : 40 ≤ m) : ((piA w).1 : Rat) ≤ ((2 ^ (w + 1) : Nat) : Rat) * qt m := by
  rcases piA_ok w hm with h | h
  · exact h
  · exfalso
    obtain ⟨z1, -, z3, -, -⟩ := piChk_at h1 h2
    obtain ⟨U, hU⟩ : ∃ U, U = ((2 ^ w : Nat) : Rat) := ⟨_, rfl⟩
    have hp : 0 < U := by rw [hU]; exact two_pos w
    obtain ⟨a1, a2⟩ := part_shut (n := 5) hU (by omega)
    obtain ⟨b1, b2⟩ := part_shut (n := 239) hU (by omega)
    rw [show (((5 : Nat) : Rat)) = 5 from rfl] at a1 a2
    rw [show (((239 : Nat) : Rat)) = 239 from rfl] at b1 b2
    obtain ⟨c1, c2⟩ := atA_ok hU (show (0 : Rat) ≤ 1 / 5 by grind) (by grind) a1 a2 hm
    obtain ⟨d1, d2⟩ := atA_ok hU (show (0 : Rat) ≤ 1 / 239 by grind) (by grind) b1 b2 hm
    have z : (((atA (2 ^ w / 239) (cd (2 ^ w) 239) w).2 * 4 : Nat) : Rat) ≤ (((atA (2 ^ w / 5) (cd (2 ^ w) 5) w).1 * 16 : Nat) : Rat) := Rat.natCast_le_natCast.2 z1
    rw [Rat.natCast_mul, Rat.natCast_mul, show ((4 : Nat) : Rat) = 4 from rfl, show ((16 : Nat) : Rat) = 16 from rfl] at z
    have k : 0 ≤ 2 * (U * qt m) := by unfold qt; grind
    have := mul_nn (Rat.le_of_lt hp) (show 0 ≤ -qt m by grind)
    have hq : U * qt m = 0 := by grind
    have : qt m = 0 := by
      rcases Rat.mul_eq_zero.1 hq with e | e
      · grind
      · exact e
    grind
/-- the program's bounds of a quarter turn -/
theorem quarter {w : Nat} (h1 : 64 ≤ w) (h2 : w ≤ 192) {f g : Rat} (hf : f = ((piA w).1 : Rat) / ((2 ^ (w + 1) : Nat) : Rat)) (hg : g = ((piA w).2 : Rat) / ((2 ^ (w + 1) : Nat) : Rat)) :
    157 / 100 ≤ f ∧ f ≤ g ∧ g ≤ 158 / 100 ∧ (g - f) * 1099511627776 ≤ 1 ∧ ∀ m, 40 ≤ m → f ≤ qt m ∧ qt m ≤ g := by
  obtain ⟨-, -, z3, z4, z5⟩ := piChk_at h1 h2
  have hp := two_pos (w + 1)
  obtain ⟨V, hV⟩ : ∃ V, V = ((2 ^ (w + 1) : Nat) : Rat) := ⟨_, rfl⟩
  have k3 : ((157 * 2 ^ (w + 1) : Nat) : Rat) ≤ ((100 * (piA w).1 : Nat) : Rat) := Rat.natCast_le_natCast.2 z3
  have k4 : ((100 * (piA w).2 : Nat) : Rat) ≤ ((158 * 2 ^ (w + 1) : Nat) : Rat) := Rat.natCast_le_natCast.2 z4
  have q1 := fun m hm => piA_lo (m := m) h1 h2 hm
  have q2 := fun m hm => le_piA (m := m) w hm
  have hle : (piA w).1 ≤ (piA w).2 := Rat.natCast_le_natCast.1 (Rat.le_trans (q1 40 (by omega)) (q2 40 (by omega)))
  have k5 : ((((piA w).2 - (piA w).1) * 2 ^ 40 : Nat) : Rat) ≤ ((2 ^ (w + 1) : Nat) : Rat) := Rat.natCast_le_natCast.2 z5
  have k6 : (((piA w).2 - (piA w).1 : Nat) : Rat) + ((piA w).1 : Rat) = ((piA w).2 : Rat) := by rw [← Rat.natCast_add]; congr 1; omega
  rw [Rat.natCast_mul, Rat.natCast_mul, show ((157 : Nat) : Rat) = 157 from rfl, show ((100 : Nat) : Rat) = 100 from rfl] at k3
  rw [Rat.natCast_mul, Rat.natCast_mul, show ((158 : Nat) : Rat) = 158 from rfl, show ((100 : Nat) : Rat) = 100 from rfl] at k4
  rw [Rat.natCast_mul, show ((2 ^ 40 : Nat) : Rat) = 1099511627776 from rfl] at k5
  rw [← hV] at hp k3 k4 k5 hf hg
  have e1 : f * V = ((piA w).1 : Rat) := by rw [hf]; grind
  have e2 : g * V = ((piA w).2 : Rat) := by rw [hg]; grind
  refine ⟨le_cancel hp (by grind), le_cancel hp (by rw [e1, e2]; exact Rat.natCast_le_natCast.2 hle), le_cancel hp (by grind), le_cancel hp (by grind), fun m hm => ?_⟩
  have a := q1 m hm
  have b := q2 m hm
  rw [← hV] at a b
  exact ⟨le_cancel hp (by grind), le_cancel hp (by grind)⟩
/-- the remainder between the rounded ones -/
theorem rest_shut {x f g lo hi : Rat} {k : Int} {q : Rat} (h1 : f ≤ q) (h2 : q ≤ g) (hlo : lo ≤ x - (k : Rat) * (if k < 0 then f else g)) (hhi : x - (k : Rat) * (if k < 0 then g else f) ≤ hi) : lo ≤ x - (k : Rat) * q ∧ x - (k : Rat) * q ≤ hi := by
  by_cases hk : k < 0
  · rw [if_pos hk] at hlo hhi
    have hk' : (k : Rat) ≤ 0 := by
      have : ((k : Int) : Rat) ≤ ((0 : Int) : Rat) := Rat.intCast_le_intCast.2 (by omega)
      exact this
    have a := mul_nn (show 0 ≤ -(k : Rat) by grind) (show 0 ≤ q - f by grind)
    have b := mul_nn (show 0 ≤ -(k : Rat) by grind) (show 0 ≤ g - q by grind)
    grind
  · rw [if_neg hk] at hlo hhi
    have hk' : 0 ≤ (k : Rat) := by
      have : ((0 : Int) : Rat) ≤ ((k : Int) : Rat) := Rat.intCast_le_intCast.2 (by omega)
      exact this
    have a := mul_nn hk' (show 0 ≤ q - f by grind)
    have b := mul_nn hk' (show 0 ≤ g - q by grind)
    grind
end Go.An