/- Contracts of package word's functions on rational numbers, first part. -/
import Derived.Test.YteblflmnhegmjaaDoorRep3
set_option linter.unusedVariables false
set_option linter.unusedSimpArgs false
namespace Go.Proofs.YteblflmnhegmjaaDoor
open Go Go.Vc Go.Dig

set_option maxRecDepth 20000 in
set_option maxHeartbeats 2000000 in
theorem Reduce_ct (h : Heap) (tb : Tb h) (neg : Bool) (a b : Sl) (m n : Nat) (ha : IsNat h a m) (hb : IsNat h b n) (la : ln 4294967296 m ≤ 8589934592) (lb : ln 4294967296 n ≤ 8589934592) (h0 : n ≠ 0) :
    Fn0 T F.word_Reduce [.bool neg, a.val, b.val] h fun v h' => ∃ a' b' : Sl, v = .agg #[.bool (sg (mkQ neg m n)), a'.val, b'.val] ∧ IsFr h' a' b' (mkQ neg m n) := by
  have e1 := sg_mkQ neg (m := m) h0
  have e2 := nu_mkQ neg (m := m) h0
  have e3 := den_mkQ neg (m := m) h0
  refine fn0_of_codeI ok D.word_Reduce rfl ?_
  conv => whnf
  repeat ((first | refine opsI.step ?_ | refine codeI.step ?_); conv => whnf)
  repeat' first
   | (intro (bo : Nat); conv => whnf)
   | ((first | refine opsI.step ?_ | refine codeI.step ?_); conv => whnf)
   | (show CallN _ _ _ _ _ _; first
     | (refine CallN.quiet rfl (Zero_ct _ _ _ (by assumption) (by omega)) ?_; conv => whnf)
     | (refine CallN.fn rfl (Small_ct _ 1 (by omega)) (fun v h' hl hr => ?_); obtain ⟨s', rfl, hs'⟩ := hr; conv => whnf))
   | (show cnd _ _ _; first
     | (refine cnd_dec (fun _ => ?_) (fun _ => ?_) <;> first | (exfalso; omega) | (conv => whnf)))
   | (show LdN _ _ _ _ _; first
     | (refine LdN.own 0 rfl rfl ?_; conv => whnf))
   | (show Sto _ _ _ _; first
     | (refine Sto.lit 0 rfl rfl rfl ?_; conv => whnf))
  · subst_vars
    rw [mkQ_zero, sg_zero]
    exact RetN.all ⟨⟨none, 0, 0⟩, _, rfl, by rw [nu_zero]; exact IsNat.nil rfl, ‹_›⟩
  have hm : m ≠ 0 := by assumption
  have t1 := tw_le_ln m
  have t2 := tw_le_ln n
  refine SeqN.cut (fun ρ h2 L => ∃ k : Nat, k = min (tw m) (tw n) ∧ h.le h2 ∧ L = [(bo, .cells #[.bool false, .slice none 0 0, .slice none 0 0] Ty.word_Frac (0, 0))] ∧ ∃ a' b' : Sl, rd ρ 1 = a'.val ∧ rd ρ 2 = b'.val ∧ IsNat h2 a' (m / 2 ^ k) ∧ IsNat h2 b' (n / 2 ^ k)) ?_ ?_
  · obtain ⟨k, hk⟩ : ∃ k, k = min (tw m) (tw n) := ⟨_, rfl⟩
    have hmm : mm false (tw m : Int) (tw n) = (k : Int) := by rw [mm_min, hk]
    have hk1 : k ≤ tw m := by omega
    replace hk := Hq.mk hk
    conv => whnf
    repeat ((first | refine opsI.step ?_ | refine codeI.step ?_); conv => whnf)
    repeat' first
     | (show CallN _ _ _ _ _ _; first
       | (refine CallN.quiet rfl (Twos_ct _ (by assumption) _ _ (by assumption) (by omega)) ?_; conv => whnf))
     | ((first | refine opsI.step ?_ | refine codeI.step ?_); conv => whnf)
     | (show cnd _ _ _; first
       | (refine cnd_lt (fun _ => ?_) (fun _ => ?_) <;> first | (exfalso; omega) | (conv => whnf)))
    all_goals rw [hmm] at *
    all_goals (repeat' first
       | (show CallN _ _ _ _ _ _; first
         | (refine CallN.fn rfl (Shr_ct _ _ _ _ (by (iterate 30 (try first | assumption | refine Ws.mono ?_ (by assumption))); first | done | assumption) (by omega) (by omega)) (fun v h' hl hr => ?_); obtain ⟨s', rfl, hs'⟩ := hr; conv => whnf))
       | ((first | refine opsI.step ?_ | refine codeI.step ?_); conv => whnf))
    · exact ⟨rfl, k, hk.out, (by (iterate 30 (try first | assumption | refine Heap.le_trans ?_ (by assumption))); first | done | assumption), rfl, _, _, rfl, rfl, (by (iterate 30 (try first | assumption | refine IsNat.mono ?_ (by assumption))); first | done | assumption), (by assumption)⟩
    · refine ⟨rfl, k, hk.out, (by (iterate 30 (try first | assumption | exact Heap.le_refl _)); first | done | assumption), rfl, a, b, rfl, rfl, ?_, ?_⟩ <;> rw [show k = 0 by omega, Nat.pow_zero, Nat.div_one] <;> assumption
  conv => whnf
  repeat intro _
  rename_i h2 L2 hJ
  obtain ⟨k, hk, hle, rfl, a', b', s1, s2, hs1, hs2⟩ := hJ
  conv at s1 => lhs; whnf
  subst s1
  conv at s2 => lhs; whnf
  subst s2
  have lm1 := ln_div m (2 ^ k)
  have ln1 := ln_div n (2 ^ k)
  obtain ⟨p1, p2, p3, p4, p5, p6⟩ := red_pow (k := k) hm h0 (by omega) (by omega)
  have hg := red_gcd hm h0 hk
  rw [p5] at e2
  rw [p6] at e3
  clear p1 p2 p5 p6 hk t1 t2 ha hb
  generalize m / 2 ^ k = m1 at hs1 hs2 lm1 ln1 p3 p4 hg e2 e3
  generalize n / 2 ^ k = n1 at hs1 hs2 lm1 ln1 p3 p4 hg e2 e3
  have b1 := bl_le_ln n1
  have t1 := tw_le_ln n1
  have lg := ln_gcd m1 n1 p4
  have g0 : Nat.gcd m1 n1 ≠ 0 := by have := Nat.gcd_pos_of_pos_right m1 (Nat.pos_of_ne_zero p4); omega
  replace tb := tb.mono hle
  rw [show (neg && decide (m ≠ 0)) = neg by simp [hm]] at e1
  replace hg := Hq.mk hg
  replace e1 := Hq.mk e1
  replace e2 := Hq.mk e2
  replace e3 := Hq.mk e3
  conv => whnf
  repeat ((first | refine opsI.step ?_ | refine codeI.step ?_); conv => whnf)
  repeat' first
   | (show SeqN _ _ _ _ _ _ _; first
     | (refine SeqN.go ?_; conv => whnf))
   | (show CallN _ _ _ _ _ _; first
     | (refine CallN.quiet rfl (Twos_ct _ (by assumption) _ _ (by assumption) (by omega)) ?_; conv => whnf)
     | (refine CallN.quiet rfl (Bits_ct _ _ _ (by assumption) (by omega)) ?_; conv => whnf)
     | (refine CallN.quiet rfl (One_ct _ _ _ (by assumption) (by omega)) ?_; conv => whnf)
     | (refine CallN.fn rfl (GCD_ct _ _ _ _ _ (by assumption) (by assumption) (by omega) (by omega)) (fun v h' hl hr => ?_); obtain ⟨s', rfl, hs'⟩ := hr; conv => whnf)
     | (refine CallN.fn rfl (Div_ct _ _ _ _ _ (by (iterate 30 (try first | assumption | refine Ws.mono ?_ (by assumption))); first | done | assumption) (by (iterate 30 (try first | assumption | refine IsNat.mono ?_ (by assumption))); first | done | assumption) (by omega) (by omega) g0) (fun v h' hl hr => ?_); obtain ⟨q', r', rfl, hq', hr'⟩ := hr; conv => whnf))
   | ((first | refine opsI.step ?_ | refine codeI.step ?_); conv => whnf)
   | (show WrapN _ _ _; first
     | (refine WrapN.i64 (by omega) (by omega) ?_; conv => whnf))
   | (show cnd _ _ _; first
     | (refine cnd_eq (fun _ => ?_) (fun _ => ?_) <;> first | (exfalso; omega) | (conv => whnf))
     | (refine cnd_not ?_)
     | (refine cnd_dec (fun _ => ?_) (fun _ => ?_) <;> first | (exfalso; omega) | (conv => whnf)))
   | (show LdN _ _ _ _ _; first
     | (refine LdN.own 0 rfl rfl ?_; conv => whnf))
   | (show Sto _ _ _ _; first
     | (refine Sto.lit 0 rfl rfl rfl ?_; conv => whnf))
  · have hg1 := hg.out (by omega)
    rw [hg1, Nat.div_one] at e2 e3
    exact RetN.all ⟨a', b', by rw [e1.out] <;> rfl, ⟨by rw [e2.out]; exact hs1, by rw [e3.out]; exact hs2⟩⟩
  · have hg1 : Nat.gcd m1 n1 = 1 := by assumption
    rw [hg1, Nat.div_one] at e2 e3
    exact RetN.all ⟨a', b', by rw [e1.out] <;> rfl, ⟨by rw [e2.out]; exact (by (iterate 30 (try first | assumption | refine IsNat.mono ?_ (by assumption))); first | done | assumption), by rw [e3.out]; exact (by (iterate 30 (try first | assumption | refine IsNat.mono ?_ (by assumption))); first | done | assumption)⟩⟩
  · exact RetN.all ⟨_, _, by rw [e1.out] <;> rfl, ⟨by rw [e2.out]; exact (by (iterate 30 (try first | assumption | refine IsNat.mono ?_ (by assumption))); first | done | assumption), by rw [e3.out]; exact (by assumption)⟩⟩
end Go.Proofs.YteblflmnhegmjaaDoor
