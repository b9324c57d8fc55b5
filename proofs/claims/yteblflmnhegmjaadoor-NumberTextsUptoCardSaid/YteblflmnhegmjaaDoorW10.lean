/- Contracts of package word's functions on rational numbers, fourth part: reading a value; powers. -/
import Derived.Test.YteblflmnhegmjaaDoorW9
set_option linter.unusedVariables false
set_option linter.unusedSimpArgs false
namespace Go.Proofs.YteblflmnhegmjaaDoor
open Go Go.Vc Go.Dig

theorem dec_congr {p q : Prop} [Decidable p] [Decidable q] (h : p ↔ q) : dec p = dec q := by rw [dec_eq, dec_eq]; exact decide_eq_decide.2 h
set_option maxRecDepth 20000 in
set_option maxHeartbeats 400000 in
theorem Read_ct (h : Heap) (tb : Tb h) (neg : Bool) (a b : Sl) (l m : List Nat) (hv : IsVal h a b l m) :
    Fn0 T F.word_Read [.agg #[.bool neg, a.val, b.val]] h fun v h' => ∃ (s : Bool) (c d : Sl), v = .tuple #[.agg #[.bool s, c.val, d.val], .bool (dec (okR neg l m))] ∧ (okR neg l m → s = sg (ratOf neg l m) ∧ IsFr h' c d (ratOf neg l m)) := by
  have i1 := hv.num
  have i2 := hv.den
  have l1 := hv.ln
  have l2 := hv.lm
  have l3 := hv.sn
  have l4 := hv.sm
  obtain ⟨x, hx⟩ : ∃ x, x = evl 4294967296 l := ⟨_, rfl⟩
  obtain ⟨y, hy⟩ : ∃ y, y = evl 4294967296 m := ⟨_, rfl⟩
  obtain ⟨q, hq⟩ : ∃ q, q = ratOf neg l m := ⟨_, rfl⟩
  have hok : okR neg l m ↔ ln 4294967296 x ≤ 256 ∧ ln 4294967296 y ≤ 256 ∧ fits q := by unfold okR; rw [← hx, ← hy, ← hq]
  have hle := mkQ_le neg (m := x) (n := if y = 0 then 1 else y) (by split <;> omega)
  have hqq : q = mkQ neg x (if y = 0 then 1 else y) := by rw [hq, ratOf, ← hx, ← hy]
  rw [← hqq] at hle
  have p6 := ln_one 4294967296 two_le_B
  have hz1 := ln_le_of_le hle.1
  have hz2 := ln_le_of_le hle.2
  have hq1 : y = 0 → mkQ neg x 1 = q := fun h0 => by rw [hqq, if_pos h0]
  have hq2 : y ≠ 0 → mkQ neg x y = q := fun h0 => by rw [hqq, if_neg h0]
  have hsz : ln 4294967296 x ≤ 256 → ln 4294967296 y ≤ 256 → Sz 1099511627776 q := fun a1 a2 => ⟨by omega, by
    split at hz2 <;> omega⟩
  replace hok := Hq.mk hok
  replace hle := Hq.mk hle
  replace hz2 := Hq.mk hz2
  replace hqq := Hq.mk hqq
  rw [← hq]
  refine fn0_of_codeI ok D.word_Read rfl ?_
  conv => whnf
  repeat ((first | refine opsI.step ?_ | refine codeI.step ?_); conv => whnf)
  repeat' first
   | (show SeqN _ _ _ _ _ _ _; first
     | (refine SeqN.go ?_; conv => whnf))
   | (show CallN _ _ _ _ _ _; first
     | (refine CallN.fn rfl (Of_ct _ _ l (by (iterate 30 (try first | assumption | refine Ws.mono ?_ (by assumption))); first | done | assumption) l1 (by omega)) (fun v h' hl hr => ?_); rw [← hx] at hr; obtain ⟨s', rfl, hs'⟩ := hr; have hxl := hs'.len; conv => whnf)
     | (refine CallN.fn rfl (Of_ct _ _ m (by (iterate 30 (try first | assumption | refine Ws.mono ?_ (by assumption))); first | done | assumption) l2 (by omega)) (fun v h' hl hr => ?_); rw [← hy] at hr; obtain ⟨t', rfl, ht'⟩ := hr; have hyl := ht'.len; conv => whnf)
     | (refine CallN.quiet rfl (Zero_ct _ _ _ (by assumption) (by omega)) ?_; conv => whnf)
     | (refine CallN.fn rfl (Small_ct _ 1 (by omega)) (fun v h' hl hr => ?_); obtain ⟨s', rfl, hs'⟩ := hr; conv => whnf)
     | (refine CallN.fn rfl (Reduce_ct _ (by (iterate 30 (try first | assumption | refine Tb.mono ?_ (by assumption))); first | done | assumption) _ _ _ x 1 (by (iterate 30 (try first | assumption | refine IsNat.mono ?_ (by assumption))); first | done | assumption) (by (iterate 30 (try first | assumption | refine IsNat.mono ?_ (by assumption))); first | done | assumption) (by omega) (by omega) (by decide)) (fun v h' hl hr => ?_); rw [hq1 (by assumption)] at hr; obtain ⟨a', b', rfl, hq'⟩ := hr; conv => whnf)
     | (refine CallN.fn rfl (Reduce_ct _ (by (iterate 30 (try first | assumption | refine Tb.mono ?_ (by assumption))); first | done | assumption) _ _ _ x y (by (iterate 30 (try first | assumption | refine IsNat.mono ?_ (by assumption))); first | done | assumption) (by assumption) (by omega) (by omega) (by assumption)) (fun v h' hl hr => ?_); rw [hq2 (by assumption)] at hr; obtain ⟨a', b', rfl, hq'⟩ := hr; conv => whnf)
     | (refine CallN.quiet rfl (Fits_ct _ _ _ q (by assumption) (hsz (by omega) (by omega))) ?_; conv => whnf))
   | ((first | refine opsI.step ?_ | refine codeI.step ?_); conv => whnf)
   | (refine ⟨fun _ => HasLe.of_le (Heap.le_refl _), ?_⟩; conv => whnf)
   | (refine ⟨fun _ => HasLe.of_le (by assumption), ?_⟩; conv => whnf)
   | (refine ⟨fun hst => (by cases (show true = false from hst)), ?_⟩; conv => whnf)
   | (intro (_ : Nat); conv => whnf)
   | (show cnd _ _ _; first
     | (refine cnd_lt (fun _ => ?_) (fun _ => ?_) <;> first | (exfalso; omega) | (conv => whnf))
     | (refine cnd_dec (fun _ => ?_) (fun _ => ?_) <;> first | (exfalso; omega) | (conv => whnf)))
   | (show LdN _ _ _ _ _; first
     | (refine LdN.own 0 rfl rfl ?_; conv => whnf)
     | (refine LdN.own 1 rfl rfl ?_; conv => whnf))
   | (show Ld _ _ _ _; first
     | (refine Ld.own 1 rfl rfl ?_; conv => whnf))
   | (show Sto _ _ _ _; first
     | (refine Sto.lit 0 rfl rfl rfl ?_; conv => whnf)
     | (refine Sto.lit 1 rfl rfl rfl ?_; conv => whnf))
   | (show DrawN _ _ _ _ _ _; first
     | (refine DrawN.run (by decide +kernel) ?_; conv => whnf))
  · exact RetN.all ⟨false, ⟨none, 0, 0⟩, ⟨none, 0, 0⟩, by rw [dec_false (fun hh => by have := (hok.out.1 hh).1; omega)] <;> rfl, fun hh => by have := (hok.out.1 hh).1; omega⟩
  · exact RetN.all ⟨false, ⟨none, 0, 0⟩, ⟨none, 0, 0⟩, by rw [dec_false (fun hh => by have := (hok.out.1 hh).2.1; omega)] <;> rfl, fun hh => by have := (hok.out.1 hh).2.1; omega⟩
  all_goals exact RetN.all ⟨_, _, _, by rw [dec_congr (p := okR neg l m) (q := fits q) ⟨fun hh => (hok.out.1 hh).2.2, fun hh => hok.out.2 ⟨by omega, by omega, hh⟩⟩] <;> rfl, fun _ => ⟨rfl, (by assumption)⟩⟩

theorem pow_half (a k : Nat) : a ^ k = (if k % 2 = 1 then a else 1) * (a * a) ^ (k / 2) := by
  have e : k = 2 * (k / 2) + k % 2 := (Nat.div_add_mod k 2).symm
  conv => lhs; rw [e, Nat.pow_add, Nat.pow_mul, Nat.pow_two]
  rcases Nat.mod_two_eq_zero_or_one k with h | h <;> rw [h] <;> simp [Nat.mul_comm]
set_option maxRecDepth 20000 in
set_option maxHeartbeats 400000 in
theorem Pow_ct (h : Heap) (a : Sl) (A N : Nat) (ha : IsNat h a A) (hb : N * ln 4294967296 A ≤ 8589934590) (la : ln 4294967296 A ≤ 8589934592) (hN : N ≤ 65536) :
    Fn0 T F.word_Nat_Pow [a.val, .int .i64 N] h fun v h' => ∃ s : Sl, v = s.val ∧ IsNat h' s (A ^ N) := by
  refine fn0_of_codeI ok D.word_Nat_Pow rfl ?_
  have p6 := ln_one 4294967296 two_le_B
  conv => whnf
  repeat ((first | refine opsI.step ?_ | refine codeI.step ?_); conv => whnf)
  repeat' first
   | (show CallN _ _ _ _ _ _; first
     | (refine CallN.fn rfl (Small_ct _ 1 (by omega)) (fun v h' hl hr => ?_); obtain ⟨s', rfl, hs'⟩ := hr; conv => whnf))
   | ((first | refine opsI.step ?_ | refine codeI.step ?_); conv => whnf)
  refine LoopN.of (fun r ρ h' L => ∃ (a o : Sl) (x y : Nat), L = [] ∧ h.le h' ∧ rd ρ 0 = a.val ∧ rd ρ 1 = .int .i64 r ∧ rd ρ 5 = o.val ∧ IsNat h' a x ∧ IsNat h' o y ∧ ln 4294967296 x ≤ 8589934592 ∧ r ≤ 65536 ∧ Hq (ln 4294967296 y + r * ln 4294967296 x ≤ 1 + N * ln 4294967296 A) ∧ Hq (y * x ^ r = A ^ N)) N
    ⟨a, s', A, 1, rfl, hl, rfl, rfl, rfl, (by (iterate 30 (try first | assumption | refine IsNat.mono ?_ (by assumption))); first | done | assumption), (by assumption), la, hN, ⟨by rw [p6]; exact Nat.le_refl _⟩, ⟨by rw [Nat.one_mul]⟩⟩ ?_
  conv => whnf
  repeat intro _
  rename_i r h2 L2 hI
  obtain ⟨a, o, x, y, rfl, hle, e0, e1, e2, hx, hy, lx, hr, hsz, heq⟩ := hI
  conv at e0 => lhs; whnf
  subst e0
  conv at e1 => lhs; whnf
  subst e1
  conv at e2 => lhs; whnf
  subst e2
  by_cases h0 : r = 0
  · subst h0
    conv => whnf
    repeat ((first | refine opsI.step ?_ | refine codeI.step ?_); conv => whnf)
    repeat' first
     | ((first | refine opsI.step ?_ | refine codeI.step ?_); conv => whnf)
     | (show cnd _ _ _; first
       | (refine cnd_lt (fun _ => ?_) (fun _ => ?_) <;> first | (exfalso; omega) | (conv => whnf)))
    have e := heq.out
    rw [Nat.pow_zero, Nat.mul_one] at e
    exact RetN.all ⟨o, rfl, by rw [← e]; exact hy⟩
  · have l1 : ln 4294967296 y ≤ 1 + N * ln 4294967296 A := by have := hsz.out; omega
    have l2 := ln_mul two_le_B y x
    have l3 := ln_mul two_le_B x x
    have l4 : 1 * ln 4294967296 x ≤ r * ln 4294967296 x := Nat.mul_le_mul_right _ (by omega)
    have hp := Hq.mk (pow_half x r)
    have hq : Hq (ln 4294967296 y + (r % 2) * ln 4294967296 x + (r / 2) * (2 * ln 4294967296 x) ≤ 1 + N * ln 4294967296 A) := ⟨by
      have e := hsz.out
      have e2 : r * ln 4294967296 x = (2 * (r / 2) + r % 2) * ln 4294967296 x := by rw [Nat.div_add_mod]
      rw [Nat.add_mul] at e2
      have e3 : 2 * (r / 2) * ln 4294967296 x = r / 2 * (2 * ln 4294967296 x) := by rw [Nat.mul_comm 2, Nat.mul_assoc]
      omega⟩
    have l5 : ln 4294967296 x ≤ 1 + N * ln 4294967296 A := by have := hsz.out; omega
    replace l4 := Hq.mk l4
    conv => whnf
    repeat ((first | refine opsI.step ?_ | refine codeI.step ?_); conv => whnf)
    repeat' first
     | (show SeqN _ _ _ _ _ _ _; first
       | (refine SeqN.go ?_; conv => whnf))
     | (show BitN _ _ _ _ _; first
       | (refine BitN.low1 r rfl (by omega) ?_; conv => whnf))
     | (show ShrN _ _ _ _; first
       | (refine ShrN.of 1 (by decide) (by omega) ?_; conv => whnf))
     | (show CallN _ _ _ _ _ _; first
       | (refine CallN.fn rfl (Mul_ct _ _ _ _ _ (by (iterate 30 (try first | assumption | refine Ws.mono ?_ (by assumption))); first | done | assumption) (by (iterate 30 (try first | assumption | refine Ws.mono ?_ (by assumption))); first | done | assumption) (by omega) (by omega)) (fun v h' hl hr => ?_); obtain ⟨s', rfl, hs'⟩ := hr; conv => whnf))
     | ((first | refine opsI.step ?_ | refine codeI.step ?_); conv => whnf)
     | (show cnd _ _ _; first
       | (refine cnd_lt (fun _ => ?_) (fun _ => ?_) <;> first | (exfalso; omega) | (conv => whnf))
       | (refine cnd_eq (fun _ => ?_) (fun _ => ?_) <;> first | (exfalso; omega) | (conv => whnf)))
    · exact ⟨rfl, r / 2, by omega, _, _, x * x, y * x, rfl, (by (iterate 30 (try first | assumption | refine Heap.le_trans ?_ (by assumption))); first | done | assumption), rfl, vi (by omega), rfl, (by assumption), (by (iterate 30 (try first | assumption | refine IsNat.mono ?_ (by assumption))); first | done | assumption), by
        have := hq.out
        have h1 : 1 * (2 * ln 4294967296 x) ≤ r / 2 * (2 * ln 4294967296 x) := Nat.mul_le_mul_right _ (by omega)
        omega, by omega, ⟨by
        have := hq.out
        have h1 : r / 2 * ln 4294967296 (x * x) ≤ r / 2 * (2 * ln 4294967296 x) := Nat.mul_le_mul_left _ (by omega)
        rw [show r % 2 = 1 by omega, Nat.one_mul] at this
        omega⟩, ⟨by rw [← heq.out, hp.out, if_pos (by omega), Nat.mul_assoc]⟩⟩
    · exact ⟨rfl, r / 2, by omega, a, _, x, y * x, rfl, (by (iterate 30 (try first | assumption | refine Heap.le_trans ?_ (by assumption))); first | done | assumption), rfl, vi (by omega), rfl, (by (iterate 30 (try first | assumption | refine IsNat.mono ?_ (by assumption))); first | done | assumption), (by assumption), lx, by omega, ⟨by
        have := hq.out
        rw [show r % 2 = 1 by omega, Nat.one_mul] at this
        rw [show r / 2 = 0 by omega, Nat.zero_mul] at this ⊢
        omega⟩, ⟨by rw [← heq.out, show r / 2 = 0 by omega, show r = 1 by omega, Nat.pow_zero, Nat.mul_one, Nat.pow_one]⟩⟩
    · exact ⟨rfl, r / 2, by omega, _, o, x * x, y, rfl, (by (iterate 30 (try first | assumption | refine Heap.le_trans ?_ (by assumption))); first | done | assumption), rfl, vi (by omega), rfl, (by assumption), (by (iterate 30 (try first | assumption | refine IsNat.mono ?_ (by assumption))); first | done | assumption), by
        have := hq.out
        have h1 : 1 * (2 * ln 4294967296 x) ≤ r / 2 * (2 * ln 4294967296 x) := Nat.mul_le_mul_right _ (by omega)
        omega, by omega, ⟨by
        have := hq.out
        have h1 : r / 2 * ln 4294967296 (x * x) ≤ r / 2 * (2 * ln 4294967296 x) := Nat.mul_le_mul_left _ (by omega)
        omega⟩, ⟨by rw [← heq.out, hp.out, if_neg (by omega), Nat.one_mul]⟩⟩

set_option maxRecDepth 20000 in
set_option maxHeartbeats 400000 in
theorem FPow_ct (h : Heap) (a b : Sl) (q : Rat) (n : Nat) (hq : IsFr h a b q) (hs : Sz 65536 q) (hn : n ≤ 65536) :
    Fn0 T F.word_Frac_Pow [.agg #[.bool (sg q), a.val, b.val], .int .i64 n] h fun v h' => ∃ s t : Sl, v = .agg #[.bool (sg (q ^ n)), s.val, t.val] ∧ IsFr h' s t (q ^ n) := by
  have i1 := hq.num
  have i2 := hq.den
  have l1 := hs.num
  have l2 := hs.den
  have e1 := sg_pow q n
  have e2 := nu_pow q n
  have e3 := Rat.den_pow q n
  have b1 : n * ln 4294967296 (nu q) ≤ 8589934590 := Nat.le_trans (Nat.mul_le_mul hn l1) (by decide)
  have b2 : n * ln 4294967296 q.den ≤ 8589934590 := Nat.le_trans (Nat.mul_le_mul hn l2) (by decide)
  refine fn0_of_codeI ok D.word_Frac_Pow rfl ?_
  conv => whnf
  repeat ((first | refine opsI.step ?_ | refine codeI.step ?_); conv => whnf)
  repeat' first
   | (show RemN _ _ _; first
     | (refine RemN.nn (by omega) (by omega) ?_; conv => whnf))
   | (show CallN _ _ _ _ _ _; first
     | (refine CallN.fn rfl (Pow_ct _ _ (nu q) n (by (iterate 30 (try first | assumption | refine IsNat.mono ?_ (by assumption))); first | done | assumption) b1 (by omega) hn) (fun v h' hl hr => ?_); rw [← e2] at hr; obtain ⟨s', rfl, hs'⟩ := hr; conv => whnf)
     | (refine CallN.fn rfl (Pow_ct _ _ q.den n (by (iterate 30 (try first | assumption | refine IsNat.mono ?_ (by assumption))); first | done | assumption) b2 (by omega) hn) (fun v h' hl hr => ?_); rw [← e3] at hr; obtain ⟨t', rfl, ht'⟩ := hr; conv => whnf))
   | ((first | refine opsI.step ?_ | refine codeI.step ?_); conv => whnf)
   | (refine ⟨fun _ => HasLe.of_le (by assumption), ?_⟩; conv => whnf)
   | (refine ⟨fun hst => (by cases (show true = false from hst)), ?_⟩; conv => whnf)
   | (intro (_ : Nat); conv => whnf)
   | (show cnd _ _ _; first
     | (refine cnd_bool (fun _ => ?_) (fun _ => ?_) <;> (conv => whnf)))
   | (show LdN _ _ _ _ _; first
     | (refine LdN.own 0 rfl rfl ?_; conv => whnf))
   | (show Ld _ _ _ _; first
     | (refine Ld.own 1 rfl rfl ?_; conv => whnf))
   | (show Sto _ _ _ _; first
     | (refine Sto.lit 0 rfl rfl rfl ?_; conv => whnf))
   | (show DrawN _ _ _ _ _ _; first
     | (refine DrawN.run (by decide +kernel) ?_; conv => whnf))
  · have he : eq ((n : Int) % 2) 1 = decide (n % 2 = 1) := by unfold eq; rw [Bool.eq_iff_iff, decide_eq_true_iff, decide_eq_true_iff]; omega
    exact RetN.all ⟨s', t', by rw [e1, he]; simp_all, ⟨(by (iterate 30 (try first | assumption | refine IsNat.mono ?_ (by assumption))); first | done | assumption), (by assumption)⟩⟩
  · exact RetN.all ⟨s', t', by rw [e1]; simp_all, ⟨(by (iterate 30 (try first | assumption | refine IsNat.mono ?_ (by assumption))); first | done | assumption), (by assumption)⟩⟩
end Go.Proofs.YteblflmnhegmjaaDoor
