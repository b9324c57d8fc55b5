/- The law's brackets told by their functions; where its ways meet. -/
import Derived.Test.YtdemgbmndijkkaaGreatDoorEL21
import Derived.Test.YtdemgbmndijkkaaGreatDoorEL22
set_option linter.unusedVariables false
set_option linter.unusedSimpArgs false
namespace Go.Proofs.YtdemgbmndijkkaaGreatDoor
open Go Go.Vc Go.Dig
/-- the ends of a bracket, and whether there is one -/
def EndR (P : Rat → Rat → Prop) (h : Heap) (v : Value) : Prop := ∃ (lo hi : Rat) (c d c' d' : Sl) (o : Bool),
  v = .tuple #[.agg #[.bool (sg lo), c.val, d.val], .agg #[.bool (sg hi), c'.val, d'.val], .bool o] ∧ IsQ h c d lo ∧ IsQ h c' d' hi ∧ Sr 128 lo ∧ Sr 128 hi ∧ (o = true → P lo hi)
theorem sz_sr {k : Nat} {q : Rat} (s : Sr k q) : Sz k q := ⟨by rw [ln_half]; have := s.num; omega, by rw [ln_half]; have := s.den; omega⟩
theorem ends_of {P : Rat → Rat → Prop} (h : Heap) (tb : Tb h) (a b : Sl) (q : Rat) (fn : Nat) (z : Int) (hz : z = fn) (p : Int) (h1 : 1 ≤ fn) (h4 : fn ≤ 4) (w : IsQ h a b q) (hs : Sr 8388608 q) (hP : ∀ lo hi, Good fn q lo hi → P lo hi) :
    Fn0 T F.top_ends [.int .i64 z, .agg #[.bool (sg q), a.val, b.val], .int .i64 p] h fun v h' => EndR P h' v := by
  subst hz
  refine (ends_ct h tb a b q fn p h1 h4 w (sz_sr (hs.mono (by decide))) (hs.mono (by decide))).mono fun v h' _ r => ?_
  obtain ⟨lo, hi, c, d, c', d', o, e, w1, w2, s1, s2, ho, hg⟩ := r
  exact ⟨lo, hi, c, d, c', d', o, e, w1, w2, s1, s2, fun x => hP lo hi (hg x)⟩
theorem endsE (h : Heap) (tb : Tb h) (a b : Sl) (q : Rat) (p : Int) (w : IsQ h a b q) (hs : Sr 8388608 q) : Fn0 T F.top_ends [.int .i64 1, .agg #[.bool (sg q), a.val, b.val], .int .i64 p] h fun v h' => EndR (An.ExpB q) h' v :=
  ends_of h tb a b q 1 1 rfl p (by decide) (by decide) w hs fun _ _ g => g.1 rfl
theorem endsL (h : Heap) (tb : Tb h) (a b : Sl) (q : Rat) (p : Int) (w : IsQ h a b q) (hs : Sr 8388608 q) : Fn0 T F.top_ends [.int .i64 2, .agg #[.bool (sg q), a.val, b.val], .int .i64 p] h fun v h' => EndR (fun lo hi => 0 < q ∧ An.LogB q lo hi) h' v :=
  ends_of h tb a b q 2 2 rfl p (by decide) (by decide) w hs fun _ _ g => g.2.1 rfl
theorem endsS (h : Heap) (tb : Tb h) (a b : Sl) (q : Rat) (p : Int) (w : IsQ h a b q) (hs : Sr 8388608 q) : Fn0 T F.top_ends [.int .i64 3, .agg #[.bool (sg q), a.val, b.val], .int .i64 p] h fun v h' => EndR (An.SinB q) h' v :=
  ends_of h tb a b q 3 3 rfl p (by decide) (by decide) w hs fun _ _ g => g.2.2.1 rfl
theorem endsC (h : Heap) (tb : Tb h) (a b : Sl) (q : Rat) (p : Int) (w : IsQ h a b q) (hs : Sr 8388608 q) : Fn0 T F.top_ends [.int .i64 4, .agg #[.bool (sg q), a.val, b.val], .int .i64 p] h fun v h' => EndR (An.CosB q) h' v :=
  ends_of h tb a b q 4 4 rfl p (by decide) (by decide) w hs fun _ _ g => g.2.2.2 rfl
theorem ratOf_srL {h : Heap} {a b : Sl} {neg : Bool} {l m : List Nat} (hv : IsVal h a b l m) (k1 : l.length ≤ 1048576) (k2 : m.length ≤ 1048576) : Sr 2097153 (ratOf neg l m) := by
  have h1 := ln16_le hv.ln
  have h2 := ln16_le hv.lm
  have h5 := ratOf_le neg l m
  have h6 := ln_one 65536 two_le_b
  refine ⟨Nat.le_trans (ln_mono two_le_b h5.1) (by omega), Nat.le_trans (ln_mono two_le_b h5.2) ?_⟩
  split <;> omega
theorem sr_quo {k l : Nat} {q r : Rat} (a : Sr k q) (b : Sr l r) (hk : 1 ≤ k + l) : Sr (k + l) (q / r) := by
  by_cases h0 : nu r = 0
  · have e : r = 0 := nu_eq_zero.1 h0
    rw [e, Rat.div_def, Rat.inv_zero, Rat.mul_zero]
    exact ⟨by rw [show nu 0 = 0 from by decide +kernel, (ln_eq_zero two_le_b).2 rfl]; omega, by rw [show (0 : Rat).den = 1 from by decide +kernel, ln_one _ two_le_b]; omega⟩
  · rw [Rat.div_def]; exact sr_mul a (sr_inv b h0)
theorem sr_two : Sr 1 ((2 : Int) : Rat) := by
  refine ⟨?_, ?_⟩
  · rw [nu_int]; exact (ln_le_iff two_le_b (k := 1)).2 (by decide)
  · rw [den_int, ln_one _ two_le_b]; decide
/-- two new variables behind a region -/
theorem SeqN.two {a b : Post → Env → Heap → Vc.Own → Prop} {ws : List Nat} {Q : Post} {ρ : Env} {h : Heap} {L : Vc.Own} (p q : Rat) (i j : Nat)
    (ha : a (fun e ρ' h' L' => match e with | .normal => ρ' = over ws 0 ρ ρ' ∧ J2 h L p q i j ρ' h' L' | e => Q e ρ' h' L') ρ h L) (hb : allW ws 0 ρ fun ρ' => ∀ h' L', J2 h L p q i j ρ' h' L' → b Q ρ' h' L') : SeqN a b ws Q ρ h L := SeqN.cut _ ha hb
/-- a bracket in two new variables, and whether there is one -/
def J4 (h0 : Heap) (L0 : Vc.Own) (P : Rat → Rat → Prop) (i j k : Nat) (ρ : Env) (h' : Heap) (L' : Vc.Own) : Prop := ∃ (bi bj : Nat) (p q : Rat) (x1 y1 x2 y2 : Sl) (o : Bool), rd ρ i = .pointer (some { block := bi, off := 0 }) ∧ rd ρ j = .pointer (some { block := bj, off := 0 }) ∧ rd ρ k = .bool o ∧ h0.le h' ∧ IsQ h' x1 y1 p ∧ IsQ h' x2 y2 q ∧ Sr 128 p ∧ Sr 128 q ∧ (o = true → P p q) ∧
  (L' = (bj, .cells [.bool (sg q), x2.val, y2.val].toArray Ty.ref01_Q (0, 0)) :: (bi, .cells [.bool (sg p), x1.val, y1.val].toArray Ty.ref01_Q (0, 0)) :: L0 ∨
   L' = (bi, .cells [.bool (sg p), x1.val, y1.val].toArray Ty.ref01_Q (0, 0)) :: (bj, .cells [.bool (sg q), x2.val, y2.val].toArray Ty.ref01_Q (0, 0)) :: L0)
theorem SeqN.four {a b : Post → Env → Heap → Vc.Own → Prop} {ws : List Nat} {Q : Post} {ρ : Env} {h : Heap} {L : Vc.Own} (P : Rat → Rat → Prop) (i j k : Nat)
    (ha : a (fun e ρ' h' L' => match e with | .normal => ρ' = over ws 0 ρ ρ' ∧ J4 h L P i j k ρ' h' L' | e => Q e ρ' h' L') ρ h L) (hb : allW ws 0 ρ fun ρ' => ∀ h' L', J4 h L P i j k ρ' h' L' → b Q ρ' h' L') : SeqN a b ws Q ρ h L := SeqN.cut _ ha hb
/-- own memory as it was, one slot told -/
theorem SeqN.meet {a b : Post → Env → Heap → Vc.Own → Prop} {ws : List Nat} {Q : Post} {ρ : Env} {h : Heap} {L : Vc.Own} (t : Nat) (v : Bool)
    (ha : a (fun e ρ' h' L' => match e with | .normal => ρ' = over ws 0 ρ ρ' ∧ (rd ρ' t = .bool v ∧ h.le h' ∧ L' = L) | e => Q e ρ' h' L') ρ h L) (hb : allW ws 0 ρ fun ρ' => ∀ h' L', (rd ρ' t = .bool v ∧ h.le h' ∧ L' = L) → b Q ρ' h' L') : SeqN a b ws Q ρ h L := SeqN.cut _ ha hb
end Go.Proofs.YtdemgbmndijkkaaGreatDoor