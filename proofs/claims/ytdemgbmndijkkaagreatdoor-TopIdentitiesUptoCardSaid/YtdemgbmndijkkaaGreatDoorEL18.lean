/- Package elem: the four series bound their functions. -/
import Derived.Test.YtdemgbmndijkkaaGreatDoorEL17
import Derived.Test.YtdemgbmndijkkaaGreatDoorEL14
set_option linter.unusedVariables false
set_option linter.unusedSimpArgs false
namespace Go.Proofs.YtdemgbmndijkkaaGreatDoor
open Go Go.Vc Go.Dig
theorem ab_le_of {q : Rat} {c : Nat} (h : nu q ≤ c * q.den) : An.ab q ≤ (c : Rat) := by
  rw [ab_q]
  have hd := An.cast_lt (Nat.pos_of_ne_zero q.den_nz)
  exact An.div_le hd (An.q_ge h)
theorem ser_exp : Ser F.elem_exp 1 := fun h a b q p tb w r hx => by
  obtain ⟨P, hP⟩ : ∃ P : Nat, p = P := ⟨p.toNat, by have := r.lo; omega⟩
  have h64 := r.ex rfl
  refine (elexp_ct h tb a b q (sg q) P p hP w r.ft h64 (by have := r.hi; omega)).mono fun v h' _ rr => ?_
  obtain ⟨v', e, br⟩ := rr
  refine ⟨v', _, _, e, br, fun _ => ?_, fun x => absurd x (by decide), fun x => absurd x (by decide), fun x => absurd x (by decide)⟩
  rw [mkQ_pow2, mkQ_pow2]
  have hd := An.cast_lt (Nat.pos_of_ne_zero q.den_nz)
  have ha := ab_le_of h64
  have e64 : ((64 : Nat) : Rat) = 64 := rfl
  rw [e64] at ha
  have l1 := An.q_le (Nat.div_mul_le_self (nu q * 2 ^ (P + 112)) q.den)
  have l2 := An.q_ge (An.cd_ge (a := nu q * 2 ^ (P + 112)) (Nat.pos_of_ne_zero q.den_nz))
  rw [Rat.natCast_mul] at l1 l2
  refine An.expA_ok (sg_lt q) ha ?_ ?_
  · rw [ab_q, show (nu q : Rat) / (q.den : Rat) * ((2 ^ (P + 112) : Nat) : Rat) = (nu q : Rat) * ((2 ^ (P + 112) : Nat) : Rat) / (q.den : Rat) by grind]
    exact An.le_div hd l1
  · rw [ab_q, show (nu q : Rat) / (q.den : Rat) * ((2 ^ (P + 112) : Nat) : Rat) = (nu q : Rat) * ((2 ^ (P + 112) : Nat) : Rat) / (q.den : Rat) by grind]
    exact An.div_le hd l2
theorem q_of_pos {q : Rat} (h : sg q = false) : (nu q : Rat) / (q.den : Rat) = q := by
  rw [← ab_q]
  refine An.ab_of ?_
  rw [sg_lt] at h
  have := of_decide_eq_false h
  grind
theorem ser_log : Ser F.elem_log 2 := fun h a b q p tb w r hx => by
  obtain ⟨P, hP⟩ : ∃ P : Nat, p = P := ⟨p.toNat, by have := r.lo; omega⟩
  obtain ⟨d1, d2⟩ := r.df rfl
  refine (ellog_ct h tb a b q (sg q) P p hP w r.ft d2 r.b1 r.b2 (by have := r.hi; omega)).mono fun v h' _ rr => ?_
  obtain ⟨v', lo, hi, e, br, lb⟩ := rr
  rw [q_of_pos d1] at lb
  refine ⟨v', lo, hi, e, br, fun x => absurd x (by decide), fun _ => ⟨?_, lb⟩, fun x => absurd x (by decide), fun x => absurd x (by decide)⟩
  have h1 := q_of_pos d1
  have h2 := An.cast_lt (Nat.pos_of_ne_zero d2)
  have h3 := An.cast_lt (Nat.pos_of_ne_zero q.den_nz)
  rw [← h1, Rat.div_def]
  exact An.pos_mul h2 (Rat.inv_pos.2 h3)
/-- the greatest numerators that come out of a quadrant -/
theorem sel_small {j w : Nat} {C S : Rat × Rat} (c1 : nu C.1 ≤ 2 ^ w) (c2 : nu C.2 ≤ 2 ^ w) (s1 : nu S.1 ≤ 2 ^ w) (s2 : nu S.2 ≤ 2 ^ w) :
    (nu (An.selS j C S).1 ≤ 2 ^ w ∧ nu (An.selS j C S).2 ≤ 2 ^ w) ∧ nu (An.selC j C S).1 ≤ 2 ^ w ∧ nu (An.selC j C S).2 ≤ 2 ^ w := by
  unfold An.selS An.selC
  refine ⟨?_, ?_⟩
  · split
    · exact ⟨s1, s2⟩
    · split
      · exact ⟨c1, c2⟩
      · split
        · exact ⟨by rw [nu_neg]; exact s2, by rw [nu_neg]; exact s1⟩
        · exact ⟨by rw [nu_neg]; exact c2, by rw [nu_neg]; exact c1⟩
  · split
    · exact ⟨c1, c2⟩
    · split
      · exact ⟨by rw [nu_neg]; exact s2, by rw [nu_neg]; exact s1⟩
      · split
        · exact ⟨by rw [nu_neg]; exact c2, by rw [nu_neg]; exact c1⟩
        · exact ⟨s1, s2⟩
theorem cAt_nu (ln hn : Bool) (a b w : Nat) : nu (An.cAt ln hn a b w).1 ≤ 2 ^ w ∧ nu (An.cAt ln hn a b w).2 ≤ 2 ^ w := by
  have hP : (2 ^ w : Nat) ≠ 0 := Nat.ne_of_gt (Nat.two_pow_pos w)
  obtain ⟨k1, k2⟩ := cAt_small ln hn a b w
  constructor
  · show nu ((_ : Rat) / _) ≤ _
    rw [← mkQ_pow2]; exact Nat.le_trans (mkQ_le false hP).1 k1
  · show nu ((_ : Rat) / _) ≤ _
    rw [← mkQ_pow2]; exact Nat.le_trans (mkQ_le false hP).1 k2
theorem ln_bl {m k : Nat} (h : bl m ≤ 32 * k) : ln 4294967296 m ≤ k := ln_pow2_lt (Nat.lt_of_lt_of_le (bl_lt m) (Nat.pow_le_pow_right (by decide) h))
/-- what both functions' walks are told -/
theorem trig_nums {q : Rat} {fn : Nat} (hfn : fn = 3 ∨ fn = 4) {p : Int} (r : Rdy fn q p) {P : Nat} (hP : p = P) : ∃ (f g kq y1 y2 lo hi : Rat) (Y Z : Nat) (k : Int) (s c : Rat × Rat),
    f = mkQ false (An.piA (P + 64)).1 (2 ^ (P + 64 + 1)) ∧ g = mkQ false (An.piA (P + 64)).2 (2 ^ (P + 64 + 1)) ∧ RestN q f g kq y1 y2 lo hi (P + 64) Y Z k ∧
    s = An.selS (k % 4).toNat (An.cAt (sg lo) (sg hi) Y Z (P + 64)) (An.sAt true (sg lo) Y (P + 64), An.sAt false (sg hi) Z (P + 64)) ∧
    c = An.selC (k % 4).toNat (An.cAt (sg lo) (sg hi) Y Z (P + 64)) (An.sAt true (sg lo) Y (P + 64), An.sAt false (sg hi) Z (P + 64)) ∧
    (nu s.1 ≤ 2 ^ (P + 64) ∧ nu s.2 ≤ 2 ^ (P + 64)) ∧ (nu c.1 ≤ 2 ^ (P + 64) ∧ nu c.2 ≤ 2 ^ (P + 64)) ∧ An.SinB q s.1 s.2 ∧ An.CosB q c.1 c.2 := by
  have hp1 := r.lo
  have hp2 := r.hi
  have hx := ab_le_of (r.tr hfn)
  have e32 : ((4294967296 : Nat) : Rat) = 4294967296 := rfl
  rw [e32] at hx
  have hs : Sz 33 q := ⟨ln_bl (by have := r.b1; omega), ln_bl (by have := r.b2; omega)⟩
  obtain ⟨k, kq, y1, y2, lo, hi, Y, Z, n, l1, l2, l3, sh, eY, eZ⟩ := rest_nums (w := P + 64) (by omega) (by omega) hx hs rfl rfl
  have a1 : An.ab lo ≤ 1 := An.ab_le (by grind) (by grind)
  have a2 : An.ab hi ≤ 1 := An.ab_le (by grind) (by grind)
  obtain ⟨c1, c2⟩ := cAt_nu (sg lo) (sg hi) Y Z (P + 64)
  obtain ⟨q1, q2⟩ := sel_small (j := (k % 4).toNat) c1 c2 (S := (An.sAt true (sg lo) Y (P + 64), An.sAt false (sg hi) Z (P + 64))) (sAt_small n.g1.le) (sAt_small n.g2.le)
  obtain ⟨t1, t2⟩ := An.trig_of (C := An.cAt (sg lo) (sg hi) Y Z (P + 64)) (S := (An.sAt true (sg lo) Y (P + 64), An.sAt false (sg hi) Z (P + 64))) sh l1 l3
    (fun n5 hn => ⟨(An.sAt_ok rfl (sg_lt lo) eY a1 hn).1, (An.sAt_ok rfl (sg_lt hi) eZ a2 hn).2⟩)
    (fun r h1 h2 n5 hn => An.cAt_ok rfl (sg_lt lo) (sg_lt hi) eY eZ l1 l2 l3 h1 h2 hn)
  exact ⟨_, _, kq, y1, y2, lo, hi, Y, Z, k, _, _, rfl, rfl, n, rfl, rfl, q1, q2, t2, t1⟩
end Go.Proofs.YtdemgbmndijkkaaGreatDoor