/- Contracts of the reference's functions on rational numbers, first part. -/
import Derived.Test.YtdemgbmndijkkaaGreatDoorR6
import Derived.Test.YtdemgbmndijkkaaGreatDoorRep3
import Derived.Test.YtdemgbmndijkkaaGreatDoorW10
set_option linter.unusedVariables false
set_option linter.unusedSimpArgs false
namespace Go.Dig
theorem mkQ_den0 (neg : Bool) (m : Nat) : mkQ neg m 0 = 0 := by unfold mkQ; simp
theorem mkQ_one (neg : Bool) {m : Nat} (hm : m ≠ 0) : sg (mkQ neg m 1) = neg ∧ nu (mkQ neg m 1) = m ∧ (mkQ neg m 1).den = 1 := by
  rw [sg_mkQ neg (by decide), nu_mkQ neg (by decide), den_mkQ neg (by decide)]; simp [hm]
theorem lb_le (m : Nat) : ln 65536 m ≤ 2 * ln 4294967296 m := by have := ln_half m; omega
end Go.Dig
namespace Go.Proofs.YtdemgbmndijkkaaGreatDoor
open Go Go.Vc Go.Dig

/-- numerator and denominator of a rational number, as the reference has them -/
structure IsQ (h : Heap) (a b : Sl) (q : Rat) : Prop where
  num : IsRef h a (nu q)
  den : IsRef h b q.den
theorem IsQ.mono {h h' : Heap} {a b : Sl} {q : Rat} (w : IsQ h a b q) (hl : h.le h') : IsQ h' a b q := ⟨w.num.mono hl, w.den.mono hl⟩
/-- its size in digits -/
structure Sr (k : Nat) (q : Rat) : Prop where
  num : ln 65536 (nu q) ≤ k
  den : ln 65536 q.den ≤ k
theorem Sr.mono {k l : Nat} {q : Rat} (s : Sr k q) (h : k ≤ l) : Sr l q := ⟨Nat.le_trans s.num h, Nat.le_trans s.den h⟩
theorem IsRef.nil {h : Heap} {s : Sl} (h0 : s.l = 0) : IsRef h s 0 := by unfold IsRef; rw [dg_zero]; exact Ws.nil h0

theorem den_q (h : Heap) (neg : Bool) (a b : Sl) (d : Nat) (hb : IsRef h b d) (h0 : d ≠ 0) (lb : ln 65536 d ≤ 1099511627776) : Fn0 T F.ref01_Q_den [.agg #[.bool neg, a.val, b.val]] h fun v h' => h' = h ∧ v = b.val := by
  have hl := hb.len
  have hn1 : 1 ≤ ln 65536 d := Nat.pos_of_ne_zero fun e => h0 ((ln_eq_zero two_le_b).1 e)
  refine fn0_of_codeI ok D.ref01_Q_den rfl ?_
  conv => whnf
  repeat ((first | refine opsI.step ?_ | refine codeI.step ?_); conv => whnf)
  repeat' first
   | ((first | refine opsI.step ?_ | refine codeI.step ?_); conv => whnf)
   | (intro (_ : Nat); conv => whnf)
   | (show cnd _ _ _; first
     | (refine cnd_eq (fun _ => ?_) (fun _ => ?_) <;> first | (exfalso; omega) | (conv => whnf)))
   | (show Ld _ _ _ _; first
     | (refine Ld.own 0 rfl rfl ?_; conv => whnf))
  exact RetN.all ⟨rfl, rfl⟩
theorem den_ct (h : Heap) (neg : Bool) (a b : Sl) (d : Nat) (hb : IsRef h b d) (lb : ln 65536 d ≤ 1099511627776) : Fn0 T F.ref01_Q_den [.agg #[.bool neg, a.val, b.val]] h fun v h' => ∃ s : Sl, v = s.val ∧ IsRef h' s (if d = 0 then 1 else d) := by
  have hl := hb.len
  have hz := ln_eq_zero two_le_b (n := d)
  refine fn0_of_codeI ok D.ref01_Q_den rfl ?_
  conv => whnf
  repeat ((first | refine opsI.step ?_ | refine codeI.step ?_); conv => whnf)
  by_cases h0 : d = 0
  · have h1 := hz.2 h0
    clear hz
    repeat' first
     | (show CallN _ _ _ _ _ _; first
       | (refine CallN.fn rfl (NatOf_ct _ 1 (by omega)) (fun v h' hl hr => ?_); obtain ⟨s', rfl, hs'⟩ := hr; conv => whnf))
     | ((first | refine opsI.step ?_ | refine codeI.step ?_); conv => whnf)
     | (intro (_ : Nat); conv => whnf)
     | (show cnd _ _ _; first
       | (refine cnd_eq (fun _ => ?_) (fun _ => ?_) <;> first | (exfalso; omega) | (conv => whnf)))
     | (show Ld _ _ _ _; first
       | (refine Ld.own 0 rfl rfl ?_; conv => whnf))
    exact RetN.all ⟨s', rfl, by rw [if_pos h0]; exact hs'⟩
  · have h1 : ln 65536 d ≠ 0 := fun e => h0 (hz.1 e)
    clear hz
    repeat' first
     | ((first | refine opsI.step ?_ | refine codeI.step ?_); conv => whnf)
     | (intro (_ : Nat); conv => whnf)
     | (show cnd _ _ _; first
       | (refine cnd_eq (fun _ => ?_) (fun _ => ?_) <;> first | (exfalso; omega) | (conv => whnf)))
     | (show Ld _ _ _ _; first
       | (refine Ld.own 0 rfl rfl ?_; conv => whnf))
    exact RetN.all ⟨b, rfl, by rw [if_neg h0]; exact hb⟩

set_option maxRecDepth 20000 in
set_option maxHeartbeats 1000000 in
theorem Make_ct (h : Heap) (neg : Bool) (a b : Sl) (m n : Nat) (ha : IsRef h a m) (hb : IsRef h b n) (la : ln 65536 m ≤ 4294967296) (lb : ln 65536 n ≤ 4294967296) :
    Fn0 T F.ref01_Make [.bool neg, a.val, b.val] h fun v h' => ∃ a' b' : Sl, v = .agg #[.bool (sg (mkQ neg m n)), a'.val, b'.val] ∧ IsQ h' a' b' (mkQ neg m n) := by
  have hal := ha.len
  have hbl := hb.len
  have hzm := ln_eq_zero two_le_b (n := m)
  have hzn := ln_eq_zero two_le_b (n := n)
  have zero : mkQ neg m n = 0 → ∀ h' (s : Sl), IsRef h' s 1 → ∃ a' b' : Sl, Value.agg #[.bool false, .slice none 0 0, s.val] = .agg #[.bool (sg (mkQ neg m n)), a'.val, b'.val] ∧ IsQ h' a' b' (mkQ neg m n) := fun e h' s hs => by
    rw [e, sg_zero]
    exact ⟨⟨none, 0, 0⟩, s, rfl, ⟨by rw [nu_zero]; exact IsRef.nil rfl, hs⟩⟩
  refine fn0_of_codeI ok D.ref01_Make rfl ?_
  conv => whnf
  repeat ((first | refine opsI.step ?_ | refine codeI.step ?_); conv => whnf)
  by_cases hm : m = 0
  · have h1 := hzm.2 hm
    clear hzm hzn
    repeat' first
     | (show CallN _ _ _ _ _ _; first
       | (refine CallN.fn rfl (NatOf_ct _ 1 (by omega)) (fun v h' hl hr => ?_); obtain ⟨s', rfl, hs'⟩ := hr; conv => whnf))
     | ((first | refine opsI.step ?_ | refine codeI.step ?_); conv => whnf)
     | (intro (_ : Nat); conv => whnf)
     | (show cnd _ _ _; first
       | (refine cnd_eq (fun _ => ?_) (fun _ => ?_) <;> first | (exfalso; omega) | (conv => whnf)))
     | (show LdN _ _ _ _ _; first
       | (refine LdN.own 0 rfl rfl ?_; conv => whnf))
     | (show Sto _ _ _ _; first
       | (refine Sto.lit 0 rfl rfl rfl ?_; conv => whnf))
    all_goals exact RetN.all (zero (by rw [hm, mkQ_zero]) _ _ ‹_›)
  by_cases hn : n = 0
  · have h1 := hzn.2 hn
    have h2 : ln 65536 m ≠ 0 := fun e => hm (hzm.1 e)
    clear hzm hzn
    repeat' first
     | (show CallN _ _ _ _ _ _; first
       | (refine CallN.fn rfl (NatOf_ct _ 1 (by omega)) (fun v h' hl hr => ?_); obtain ⟨s', rfl, hs'⟩ := hr; conv => whnf))
     | ((first | refine opsI.step ?_ | refine codeI.step ?_); conv => whnf)
     | (intro (_ : Nat); conv => whnf)
     | (show cnd _ _ _; first
       | (refine cnd_eq (fun _ => ?_) (fun _ => ?_) <;> first | (exfalso; omega) | (conv => whnf)))
     | (show LdN _ _ _ _ _; first
       | (refine LdN.own 0 rfl rfl ?_; conv => whnf))
     | (show Sto _ _ _ _; first
       | (refine Sto.lit 0 rfl rfl rfl ?_; conv => whnf))
    all_goals exact RetN.all (zero (by rw [hn, mkQ_den0]) _ _ ‹_›)
  have h1 : ln 65536 m ≠ 0 := fun e => hm (hzm.1 e)
  have h2 : ln 65536 n ≠ 0 := fun e => hn (hzn.1 e)
  have hone : ln 65536 n = 1 → (dg 65536 n).getD 0 0 = n := fun e => (one_digit16 e).1
  have e1 := sg_mkQ neg (m := m) hn
  have e2 := nu_mkQ neg (m := m) hn
  have e3 := den_mkQ neg (m := m) hn
  rw [show (neg && decide (m ≠ 0)) = neg by simp [hm]] at e1
  have hg0 : Nat.gcd m n ≠ 0 := by have := Nat.gcd_pos_of_pos_right m (Nat.pos_of_ne_zero hn); omega
  have hgl : ln 65536 (Nat.gcd m n) ≤ ln 65536 n := ln_mono two_le_b (Nat.gcd_le_right _ (by omega))
  replace e1 := Hq.mk e1
  replace e2 := Hq.mk e2
  replace e3 := Hq.mk e3
  clear hzm hzn zero
  repeat' first
   | (show CallN _ _ _ _ _ _; first
     | (refine CallN.fn rfl (NatOf_ct _ 1 (by omega)) (fun v h' hl hr => ?_); obtain ⟨s', rfl, hs'⟩ := hr; conv => whnf)
     | (refine CallN.fn rfl (NatGcd_ct _ _ _ _ _ (by assumption) (by assumption) (by omega) (by omega)) (fun v h' hl hr => ?_); obtain ⟨s', rfl, hs'⟩ := hr; conv => whnf)
     | (refine CallN.fn rfl (NatDiv_ct _ _ _ _ _ (by (iterate 30 (try first | assumption | refine Ws.mono ?_ (by assumption))); first | done | assumption) (by (iterate 30 (try first | assumption | refine Ws.mono ?_ (by assumption))); first | done | assumption) (by omega) (by omega) (by first | assumption | omega)) (fun v h' hl hr => ?_); obtain ⟨q', r', rfl, hq', hr'⟩ := hr; conv => whnf))
   | (show Idx _ _ _ _ _; first
     | (refine Idx.ws hb 0 (by omega) (by unfold ln at *; omega) (fun ad hv => ?_); conv => whnf))
   | (show Ld _ _ _ _; first
     | (refine Ld.of (by first | exact hv _ | (rename_i hv; exact hv _)) ?_; conv => whnf))
   | (show App _ _ _ _ _ _ _ _ _; first
     | (refine App.fresh rfl ha (by unfold ln at *; omega) (by decide) (fun h' s' hl w' => ?_); conv => whnf))
   | ((first | refine opsI.step ?_ | refine codeI.step ?_); conv => whnf)
   | (intro (_ : Nat); conv => whnf)
   | (show cnd _ _ _; first
     | (refine cnd_eq (fun _ => ?_) (fun _ => ?_) <;> first | (exfalso; omega) | (conv => whnf)))
   | (show LdN _ _ _ _ _; first
     | (refine LdN.own 0 rfl rfl ?_; conv => whnf))
   | (show Sto _ _ _ _; first
     | (refine Sto.lit 0 rfl rfl rfl ?_; conv => whnf))
  · have hn1 : n = 1 := by have := hone (by omega); omega
    rw [hn1, Nat.gcd_one_right, Nat.div_one] at e2
    rw [hn1, Nat.gcd_one_right, Nat.div_one] at e3
    rw [hn1] at e1 ⊢
    exact RetN.all ⟨_, s', by rw [e1.out] <;> rfl, ⟨by rw [e2.out]; exact (by (iterate 30 (try first | assumption | refine IsRef.mono ?_ (by assumption))); first | done | assumption), by rw [e3.out]; exact (by assumption)⟩⟩
  all_goals exact RetN.all ⟨_, _, by rw [e1.out] <;> rfl, ⟨by rw [e2.out]; exact (by (iterate 30 (try first | assumption | refine IsRef.mono ?_ (by assumption))); first | done | assumption), by rw [e3.out]; exact (by assumption)⟩⟩

theorem whole_q (h : Heap) (neg : Bool) (a b : Sl) (d : Nat) (hd : IsRef h b d) (h0 : d ≠ 0) (lb : ln 65536 d ≤ 1099511627776) : Fn0 T F.ref01_Q_whole [.agg #[.bool neg, a.val, b.val]] h fun v h' => h' = h ∧ v = .bool (dec (d = 1)) := by
  have hl := hd.len
  have hn1 : 1 ≤ ln 65536 d := Nat.pos_of_ne_zero fun e => h0 ((ln_eq_zero two_le_b).1 e)
  have hone : ln 65536 d = 1 → (dg 65536 d).getD 0 0 = d := fun e => (one_digit16 e).1
  have hd1 : d = 1 → ln 65536 d = 1 := fun e => by rw [e]; exact ln_one _ two_le_b
  refine fn0_of_codeI ok D.ref01_Q_whole rfl ?_
  conv => whnf
  repeat ((first | refine opsI.step ?_ | refine codeI.step ?_); conv => whnf)
  repeat' first
   | (show Idx _ _ _ _ _; first
     | (refine Idx.ws hd 0 (by omega) (by unfold ln at *; omega) (fun ad hv => ?_); conv => whnf))
   | (show Ld _ _ _ _; first
     | (refine Ld.of (by first | exact hv _ | (rename_i hv; exact hv _)) ?_; conv => whnf)
     | (refine Ld.own 0 rfl rfl ?_; conv => whnf))
   | ((first | refine opsI.step ?_ | refine codeI.step ?_); conv => whnf)
   | (intro (_ : Nat); conv => whnf)
   | (show cnd _ _ _; first
     | (refine cnd_eq (fun _ => ?_) (fun _ => ?_) <;> first | (exfalso; omega) | (conv => whnf)))
  all_goals refine RetN.all ⟨rfl, ?_⟩
  · have e := hone (by omega)
    rw [e]
    by_cases h1 : d = 1
    · rw [dec_true h1, Vc.eq_true' (by omega)]
    · rw [dec_false h1, Vc.eq_false' (by omega)]
  · rw [dec_false (fun e => by have := hd1 e; omega)]

theorem Sgn_q (h : Heap) (a b : Sl) (q : Rat) (hq : IsQ h a b q) (hs : Sr 1099511627776 q) : Fn0 T F.ref01_Sgn [.agg #[.bool (sg q), a.val, b.val]] h fun v h' => h' = h ∧ v = .int .i64 (signQ q) := by
  have h1 := hq.num.len
  have h3 := hs.num
  have hz := ln_eq_zero two_le_b (n := nu q)
  refine fn0_of_codeI ok D.ref01_Sgn rfl ?_
  conv => whnf
  repeat ((first | refine opsI.step ?_ | refine codeI.step ?_); conv => whnf)
  by_cases h0 : nu q = 0
  · have h4 := hz.2 h0
    clear hz
    repeat' first
     | ((first | refine opsI.step ?_ | refine codeI.step ?_); conv => whnf)
     | (intro (_ : Nat); conv => whnf)
     | (show cnd _ _ _; first
       | (refine cnd_eq (fun _ => ?_) (fun _ => ?_) <;> first | (exfalso; omega) | (conv => whnf)))
     | (show Ld _ _ _ _; first
       | (refine Ld.own 0 rfl rfl ?_; conv => whnf))
    exact RetN.all ⟨rfl, vi (by unfold signQ; rw [if_pos h0])⟩
  · have h4 : ln 65536 (nu q) ≠ 0 := fun e => h0 (hz.1 e)
    clear hz
    repeat' first
     | ((first | refine opsI.step ?_ | refine codeI.step ?_); conv => whnf)
     | (intro (_ : Nat); conv => whnf)
     | (show cnd _ _ _; first
       | (refine cnd_eq (fun _ => ?_) (fun _ => ?_) <;> first | (exfalso; omega) | (conv => whnf))
       | (refine cnd_bool (fun _ => ?_) (fun _ => ?_) <;> (conv => whnf)))
     | (show Ld _ _ _ _; first
       | (refine Ld.own 0 rfl rfl ?_; conv => whnf))
    · exact RetN.all ⟨rfl, vi (by unfold signQ; rw [if_neg h0, if_pos (by assumption)])⟩
    · exact RetN.all ⟨rfl, vi (by unfold signQ; rw [if_neg h0, if_neg (by simp_all)])⟩

theorem Opp_q (h : Heap) (a b : Sl) (q : Rat) (hq : IsQ h a b q) (hs : Sr 1099511627776 q) : Fn0 T F.ref01_Opp [.agg #[.bool (sg q), a.val, b.val]] h fun v h' => h' = h ∧ v = .agg #[.bool (sg (-q)), a.val, b.val] := by
  have h1 := hq.num.len
  have h3 := hs.num
  have e := sg_neg q
  have hz := ln_eq_zero two_le_b (n := nu q)
  refine fn0_of_codeI ok D.ref01_Opp rfl ?_
  conv => whnf
  repeat ((first | refine opsI.step ?_ | refine codeI.step ?_); conv => whnf)
  repeat' first
   | ((first | refine opsI.step ?_ | refine codeI.step ?_); conv => whnf)
   | (intro (_ : Nat); conv => whnf)
   | (show cnd _ _ _; first
     | (refine cnd_not ?_)
     | (refine cnd_bool (fun _ => ?_) (fun _ => ?_) <;> (conv => whnf)))
   | (show LdN _ _ _ _ _; first
     | (refine LdN.own 0 rfl rfl ?_; conv => whnf))
   | (show Ld _ _ _ _; first
     | (refine Ld.own 1 rfl rfl ?_; conv => whnf))
   | (show Sto _ _ _ _; first
     | (refine Sto.lit 0 rfl rfl rfl ?_; conv => whnf))
  · refine RetN.all ⟨rfl, ?_⟩
    rw [e]; simp_all
  · refine RetN.all ⟨rfl, ?_⟩
    have e1 : lt 0 (a.l : Int) = decide (nu q ≠ 0) := by
      by_cases h0 : nu q = 0
      · have := hz.2 h0
        rw [lt_false' (by omega)]; simp [h0]
      · have : ln 65536 (nu q) ≠ 0 := fun e => h0 (hz.1 e)
        rw [lt_true' (by omega)]; simp [h0]
    rw [e, show sg q = false by assumption]
    show Value.agg #[.bool (lt 0 (a.l : Int)), a.val, b.val] = _
    rw [e1]; simp
theorem IsQ.neg {h : Heap} {a b : Sl} {q : Rat} (w : IsQ h a b q) : IsQ h a b (-q) := ⟨by rw [nu_neg]; exact w.num, by rw [Rat.neg_den]; exact w.den⟩
theorem Sr.neg {k : Nat} {q : Rat} (s : Sr k q) : Sr k (-q) := ⟨by rw [nu_neg]; exact s.num, by rw [Rat.neg_den]; exact s.den⟩

set_option maxRecDepth 20000 in
theorem Prod_ct (h : Heap) (a b c d : Sl) (q r : Rat) (hq : IsQ h a b q) (hr : IsQ h c d r) (hs : Sr 1073741824 q) (hs' : Sr 1073741824 r) :
    Fn0 T F.ref01_Prod [.agg #[.bool (sg q), a.val, b.val], .agg #[.bool (sg r), c.val, d.val]] h fun v h' => ∃ s t : Sl, v = .agg #[.bool (sg (q * r)), s.val, t.val] ∧ IsQ h' s t (q * r) := by
  have e := mul_q q r
  rw [ne_beq] at e
  have i1 := hq.num
  have i2 := hq.den
  have i3 := hr.num
  have i4 := hr.den
  have l1 := hs.num
  have l2 := hs.den
  have l3 := hs'.num
  have l4 := hs'.den
  have d1 := q.den_nz
  have d2 := r.den_nz
  have p1 := ln_mul two_le_b (nu q) (nu r)
  have p2 := ln_mul two_le_b q.den r.den
  refine fn0_of_codeI ok D.ref01_Prod rfl ?_
  conv => whnf
  repeat ((first | refine opsI.step ?_ | refine codeI.step ?_); conv => whnf)
  repeat' first
   | (show CallN _ _ _ _ _ _; first
     | (refine CallN.quiet rfl (den_q _ _ _ _ _ (by (iterate 30 (try first | assumption | refine Ws.mono ?_ (by assumption))); first | done | assumption) (by first | assumption | omega) (by omega)) ?_; conv => whnf)
     | (refine CallN.fn rfl (NatMul_ct _ _ _ _ _ (by (iterate 30 (try first | assumption | refine Ws.mono ?_ (by assumption))); first | done | assumption) (by (iterate 30 (try first | assumption | refine Ws.mono ?_ (by assumption))); first | done | assumption) (by omega) (by omega)) (fun v h' hl hr => ?_); obtain ⟨s', rfl, hs'⟩ := hr; conv => whnf)
     | (refine CallN.fn rfl (Make_ct _ _ _ _ _ _ (by (iterate 30 (try first | assumption | refine Ws.mono ?_ (by assumption))); first | done | assumption) (by assumption) (by omega) (by omega)) (fun v h' hl hr => ?_); obtain ⟨a', b', rfl, hq'⟩ := hr; have hqn' := hq'.num; have hqd' := hq'.den; conv => whnf))
   | ((first | refine opsI.step ?_ | refine codeI.step ?_); conv => whnf)
   | (refine ⟨fun _ => HasLe.of_le (Heap.le_refl _), ?_⟩; conv => whnf)
   | (refine ⟨fun _ => HasLe.of_le (by assumption), ?_⟩; conv => whnf)
   | (refine ⟨fun hst => (by cases (show true = false from hst)), ?_⟩; conv => whnf)
   | (intro (_ : Nat); conv => whnf)
   | (show LdN _ _ _ _ _; first
     | (refine LdN.own 0 rfl rfl ?_; conv => whnf)
     | (refine LdN.own 1 rfl rfl ?_; conv => whnf)
     | (refine LdN.own 2 rfl rfl ?_; conv => whnf))
   | (show Ld _ _ _ _; first
     | (refine Ld.own 1 rfl rfl ?_; conv => whnf)
     | (refine Ld.own 2 rfl rfl ?_; conv => whnf))
   | (show Sto _ _ _ _; first
     | (refine Sto.lit 0 rfl rfl rfl ?_; conv => whnf))
   | (show DrawN _ _ _ _ _ _; first
     | (refine DrawN.run (by decide +kernel) ?_; conv => whnf))
  all_goals exact RetN.all ⟨_, _, by rw [e] <;> rfl, by rw [e]; exact (by assumption)⟩

set_option maxRecDepth 20000 in
theorem Quo_ct (h : Heap) (a b c d : Sl) (q r : Rat) (hq : IsQ h a b q) (hr : IsQ h c d r) (hs : Sr 1073741824 q) (hs' : Sr 1073741824 r) :
    Fn0 T F.ref01_Div [.agg #[.bool (sg q), a.val, b.val], .agg #[.bool (sg r), c.val, d.val]] h fun v h' => ∃ s t : Sl, v = .agg #[.bool (sg (q / r)), s.val, t.val] ∧ IsQ h' s t (q / r) := by
  have e := div_q' q r
  rw [ne_beq] at e
  have i1 := hq.num
  have i2 := hq.den
  have i3 := hr.num
  have i4 := hr.den
  have l1 := hs.num
  have l2 := hs.den
  have l3 := hs'.num
  have l4 := hs'.den
  have d1 := q.den_nz
  have d2 := r.den_nz
  have p1 := ln_mul two_le_b (nu q) r.den
  have p2 := ln_mul two_le_b q.den (nu r)
  refine fn0_of_codeI ok D.ref01_Div rfl ?_
  conv => whnf
  repeat ((first | refine opsI.step ?_ | refine codeI.step ?_); conv => whnf)
  repeat' first
   | (show CallN _ _ _ _ _ _; first
     | (refine CallN.quiet rfl (den_q _ _ _ _ _ (by (iterate 30 (try first | assumption | refine Ws.mono ?_ (by assumption))); first | done | assumption) (by first | assumption | omega) (by omega)) ?_; conv => whnf)
     | (refine CallN.fn rfl (NatMul_ct _ _ _ _ _ (by (iterate 30 (try first | assumption | refine Ws.mono ?_ (by assumption))); first | done | assumption) (by (iterate 30 (try first | assumption | refine Ws.mono ?_ (by assumption))); first | done | assumption) (by omega) (by omega)) (fun v h' hl hr => ?_); obtain ⟨s', rfl, hs'⟩ := hr; conv => whnf)
     | (refine CallN.fn rfl (Make_ct _ _ _ _ _ _ (by (iterate 30 (try first | assumption | refine Ws.mono ?_ (by assumption))); first | done | assumption) (by assumption) (by omega) (by omega)) (fun v h' hl hr => ?_); obtain ⟨a', b', rfl, hq'⟩ := hr; have hqn' := hq'.num; have hqd' := hq'.den; conv => whnf))
   | ((first | refine opsI.step ?_ | refine codeI.step ?_); conv => whnf)
   | (refine ⟨fun _ => HasLe.of_le (Heap.le_refl _), ?_⟩; conv => whnf)
   | (refine ⟨fun _ => HasLe.of_le (by assumption), ?_⟩; conv => whnf)
   | (refine ⟨fun hst => (by cases (show true = false from hst)), ?_⟩; conv => whnf)
   | (intro (_ : Nat); conv => whnf)
   | (show LdN _ _ _ _ _; first
     | (refine LdN.own 0 rfl rfl ?_; conv => whnf)
     | (refine LdN.own 1 rfl rfl ?_; conv => whnf)
     | (refine LdN.own 2 rfl rfl ?_; conv => whnf))
   | (show Ld _ _ _ _; first
     | (refine Ld.own 1 rfl rfl ?_; conv => whnf)
     | (refine Ld.own 2 rfl rfl ?_; conv => whnf))
   | (show Sto _ _ _ _; first
     | (refine Sto.lit 0 rfl rfl rfl ?_; conv => whnf))
   | (show DrawN _ _ _ _ _ _; first
     | (refine DrawN.run (by decide +kernel) ?_; conv => whnf))
  all_goals exact RetN.all ⟨_, _, by rw [e] <;> rfl, by rw [e]; exact (by assumption)⟩

set_option maxRecDepth 20000 in
set_option maxHeartbeats 1000000 in
theorem Sum_ct (h : Heap) (a b c d : Sl) (q r : Rat) (hq : IsQ h a b q) (hr : IsQ h c d r) (hs : Sr 1073741824 q) (hs' : Sr 1073741824 r) :
    Fn0 T F.ref01_Sum [.agg #[.bool (sg q), a.val, b.val], .agg #[.bool (sg r), c.val, d.val]] h fun v h' => ∃ s t : Sl, v = .agg #[.bool (sg (q + r)), s.val, t.val] ∧ IsQ h' s t (q + r) := by
  have i1 := hq.num
  have i2 := hq.den
  have i3 := hr.num
  have i4 := hr.den
  have l1 := hs.num
  have l2 := hs.den
  have l3 := hs'.num
  have l4 := hs'.den
  have d1 := q.den_nz
  have d2 := r.den_nz
  have p1 := ln_mul two_le_b (nu q) r.den
  have p2 := ln_mul two_le_b (nu r) q.den
  have p3 := ln_mul two_le_b q.den r.den
  have e1 := Hq.mk (add_same (q := q) (r := r))
  have e2 := Hq.mk (add_ge (q := q) (r := r))
  have e3 := Hq.mk (add_lt (q := q) (r := r))
  obtain ⟨x, hx⟩ : ∃ x, x = nu q * r.den := ⟨_, rfl⟩
  obtain ⟨y, hy⟩ : ∃ y, y = nu r * q.den := ⟨_, rfl⟩
  obtain ⟨z, hz⟩ : ∃ z, z = q.den * r.den := ⟨_, rfl⟩
  have p4 := ln_add two_le_b x y
  have p5 := ln_mono two_le_b (Nat.sub_le x y)
  have p6 := ln_mono two_le_b (Nat.sub_le y x)
  rw [← hx, ← hy, ← hz] at e1 e2 e3
  rw [← hx] at p1
  rw [← hy] at p2
  rw [← hz] at p3
  have hcl := cmp_le (m := x) (n := y)
  have hcn := cmp_neg (m := x) (n := y)
  refine fn0_of_codeI ok D.ref01_Sum rfl ?_
  conv => whnf
  repeat ((first | refine opsI.step ?_ | refine codeI.step ?_); conv => whnf)
  repeat' first
   | (show CallN _ _ _ _ _ _; first
     | (refine CallN.quiet rfl (den_q _ _ _ _ _ (by (iterate 30 (try first | assumption | refine Ws.mono ?_ (by assumption))); first | done | assumption) (by first | assumption | omega) (by omega)) ?_; conv => whnf)
     | (refine CallN.fn rfl (NatMul_ct _ _ _ (nu q) r.den (by (iterate 30 (try first | assumption | refine IsRef.mono ?_ (by assumption))); first | done | assumption) (by assumption) (by omega) (by omega)) (fun v h' hl hr => ?_); rw [← hx] at hr; obtain ⟨s', rfl, hs'⟩ := hr; conv => whnf)
     | (refine CallN.fn rfl (NatMul_ct _ _ _ (nu r) q.den (by (iterate 30 (try first | assumption | refine IsRef.mono ?_ (by assumption))); first | done | assumption) (by (iterate 30 (try first | assumption | refine IsRef.mono ?_ (by assumption))); first | done | assumption) (by omega) (by omega)) (fun v h' hl hr => ?_); rw [← hy] at hr; obtain ⟨s', rfl, hs'⟩ := hr; conv => whnf)
     | (refine CallN.fn rfl (NatMul_ct _ _ _ q.den r.den (by (iterate 30 (try first | assumption | refine IsRef.mono ?_ (by assumption))); first | done | assumption) (by (iterate 30 (try first | assumption | refine IsRef.mono ?_ (by assumption))); first | done | assumption) (by omega) (by omega)) (fun v h' hl hr => ?_); rw [← hz] at hr; obtain ⟨s', rfl, hs'⟩ := hr; conv => whnf)
     | (refine CallN.fn rfl (NatAdd_ct _ _ _ _ _ (by (iterate 30 (try first | assumption | refine Ws.mono ?_ (by assumption))); first | done | assumption) (by (iterate 30 (try first | assumption | refine Ws.mono ?_ (by assumption))); first | done | assumption) (by omega) (by omega)) (fun v h' hl hr => ?_); obtain ⟨s', rfl, hs'⟩ := hr; conv => whnf)
     | (refine CallN.fn rfl (NatSub_ct _ _ _ _ _ (by (iterate 30 (try first | assumption | refine Ws.mono ?_ (by assumption))); first | done | assumption) (by (iterate 30 (try first | assumption | refine Ws.mono ?_ (by assumption))); first | done | assumption) (by omega) (by omega)) (fun v h' hl hr => ?_); obtain ⟨s', rfl, hs'⟩ := hr; conv => whnf)
     | (refine CallN.quiet rfl (NatCmp_ct _ _ _ _ _ (by (iterate 30 (try first | assumption | refine Ws.mono ?_ (by assumption))); first | done | assumption) (by (iterate 30 (try first | assumption | refine Ws.mono ?_ (by assumption))); first | done | assumption) (by omega) (by omega)) ?_; conv => whnf)
     | (refine CallN.fn rfl (Make_ct _ _ _ _ _ _ (by assumption) (by (iterate 30 (try first | assumption | refine Ws.mono ?_ (by assumption))); first | done | assumption) (by omega) (by omega)) (fun v h' hl hr => ?_); obtain ⟨a', b', rfl, hq'⟩ := hr; have hqn' := hq'.num; have hqd' := hq'.den; conv => whnf))
   | ((first | refine opsI.step ?_ | refine codeI.step ?_); conv => whnf)
   | (refine ⟨fun _ => HasLe.of_le (Heap.le_refl _), ?_⟩; conv => whnf)
   | (refine ⟨fun _ => HasLe.of_le (by assumption), ?_⟩; conv => whnf)
   | (refine ⟨fun hst => (by cases (show true = false from hst)), ?_⟩; conv => whnf)
   | (intro (_ : Nat); conv => whnf)
   | (show cnd _ _ _; first
     | (refine cnd_le (fun _ => ?_) (fun _ => ?_) <;> first | (exfalso; omega) | (conv => whnf))
     | (refine cnd_beq (fun _ => ?_) (fun hne => ?_) <;> first | exact absurd rfl hne | (conv => whnf)))
   | (show LdN _ _ _ _ _; first
     | (refine LdN.own 0 rfl rfl ?_; conv => whnf)
     | (refine LdN.own 1 rfl rfl ?_; conv => whnf)
     | (refine LdN.own 2 rfl rfl ?_; conv => whnf))
   | (show Ld _ _ _ _; first
     | (refine Ld.own 1 rfl rfl ?_; conv => whnf)
     | (refine Ld.own 2 rfl rfl ?_; conv => whnf))
   | (show Sto _ _ _ _; first
     | (refine Sto.lit 0 rfl rfl rfl ?_; conv => whnf))
   | (show DrawN _ _ _ _ _ _; first
     | (refine DrawN.run (by decide +kernel) ?_; conv => whnf))
  · exact RetN.all ⟨_, _, by rw [e1.out (by assumption)] <;> rfl, by rw [e1.out (by assumption)]; exact (by assumption)⟩
  · exact RetN.all ⟨_, _, by rw [e2.out (by assumption) (by omega)] <;> rfl, by rw [e2.out (by assumption) (by omega)]; exact (by assumption)⟩
  · exact RetN.all ⟨_, _, by rw [e3.out (by assumption) (by omega)] <;> rfl, by rw [e3.out (by assumption) (by omega)]; exact (by assumption)⟩
end Go.Proofs.YtdemgbmndijkkaaGreatDoor
/- Contracts of the reference's functions on rational numbers, second part: values, sizes, results. -/
namespace Go.Proofs.YtdemgbmndijkkaaGreatDoor
open Go Go.Vc Go.Dig

theorem ratOf_le (neg : Bool) (l m : List Nat) : nu (ratOf neg l m) ≤ evl 4294967296 l ∧ (ratOf neg l m).den ≤ (if evl 4294967296 m = 0 then 1 else evl 4294967296 m) := by
  unfold ratOf; exact mkQ_le neg (by split <;> omega)
theorem ln16_le {l : List Nat} (hl : ∀ x ∈ l, x < 4294967296) : ln 65536 (evl 4294967296 l) ≤ 2 * l.length := by
  have h1 := (ln_le_iff (b := 4294967296) two_le_B).2 (evl_lt two_le_B hl)
  have := ln_half (evl 4294967296 l)
  omega
theorem ratOf_sr {h : Heap} {a b : Sl} {neg : Bool} {l m : List Nat} (hv : IsVal h a b l m) : Sr 2147483649 (ratOf neg l m) := by
  have h1 := ln16_le hv.ln
  have h2 := ln16_le hv.lm
  have h3 := hv.sn
  have h4 := hv.sm
  have h5 := ratOf_le neg l m
  have h6 := ln_one 65536 two_le_b
  refine ⟨Nat.le_trans (ln_mono two_le_b h5.1) (by omega), Nat.le_trans (ln_mono two_le_b h5.2) ?_⟩
  split <;> omega

set_option maxRecDepth 20000 in
theorem QOf_ct (h : Heap) (neg : Bool) (a b : Sl) (l m : List Nat) (hv : IsVal h a b l m) :
    Fn0 T F.ref01_Of [.agg #[.bool neg, a.val, b.val]] h fun v h' => ∃ c d : Sl, v = .agg #[.bool (sg (ratOf neg l m)), c.val, d.val] ∧ IsQ h' c d (ratOf neg l m) := by
  have i1 := hv.num
  have i2 := hv.den
  have l1 := hv.ln
  have l2 := hv.lm
  have l3 := hv.sn
  have l4 := hv.sm
  have b1 := ln16_le l1
  have b2 := ln16_le l2
  have b3 := ln_one 65536 two_le_b
  obtain ⟨x, hx⟩ : ∃ x, x = evl 4294967296 l := ⟨_, rfl⟩
  obtain ⟨y, hy⟩ : ∃ y, y = evl 4294967296 m := ⟨_, rfl⟩
  obtain ⟨q, hq⟩ : ∃ q, q = ratOf neg l m := ⟨_, rfl⟩
  have hq1 : y = 0 → mkQ neg x 1 = q := fun h0 => by rw [hq, ratOf, ← hx, ← hy, if_pos h0]
  have hq2 : y ≠ 0 → mkQ neg x y = q := fun h0 => by rw [hq, ratOf, ← hx, ← hy, if_neg h0]
  rw [← hx] at b1
  rw [← hy] at b2
  have hz := ln_eq_zero two_le_b (n := y)
  have hz1 : ln 65536 y = 0 → y = 0 := hz.1
  have hz2 : ln 65536 y ≠ 0 → y ≠ 0 := fun h1 h0 => h1 (hz.2 h0)
  clear hz
  rw [← hq]
  replace hq := Hq.mk hq
  refine fn0_of_codeI ok D.ref01_Of rfl ?_
  conv => whnf
  repeat ((first | refine opsI.step ?_ | refine codeI.step ?_); conv => whnf)
  repeat' first
   | (show SeqN _ _ _ _ _ _ _; first
     | (refine SeqN.go ?_; conv => whnf))
   | (show CallN _ _ _ _ _ _; first
     | (refine CallN.fn rfl (words_ct _ _ l (by (iterate 30 (try first | assumption | refine Ws.mono ?_ (by assumption))); first | done | assumption) l1 (by omega)) (fun v h' hl hr => ?_); rw [← hx] at hr; obtain ⟨s', rfl, hs'⟩ := hr; have hxl := hs'.len; conv => whnf)
     | (refine CallN.fn rfl (words_ct _ _ m (by assumption) l2 (by omega)) (fun v h' hl hr => ?_); rw [← hy] at hr; obtain ⟨t', rfl, ht'⟩ := hr; have hyl := ht'.len; conv => whnf)
     | (refine CallN.fn rfl (NatOf_ct _ 1 (by omega)) (fun v h' hl hr => ?_); obtain ⟨s', rfl, hs'⟩ := hr; conv => whnf)
     | (refine CallN.fn rfl (Make_ct _ _ _ _ x 1 (by assumption) (by (iterate 30 (try first | assumption | refine IsRef.mono ?_ (by assumption))); first | done | assumption) (by omega) (by omega)) (fun v h' hl hr => ?_); rw [hq1 (hz1 (by omega))] at hr; obtain ⟨a', b', rfl, hq'⟩ := hr; conv => whnf)
     | (refine CallN.fn rfl (Make_ct _ _ _ _ x y (by assumption) (by (iterate 30 (try first | assumption | refine IsRef.mono ?_ (by assumption))); first | done | assumption) (by omega) (by omega)) (fun v h' hl hr => ?_); rw [hq2 (hz2 (by omega))] at hr; obtain ⟨a', b', rfl, hq'⟩ := hr; conv => whnf))
   | ((first | refine opsI.step ?_ | refine codeI.step ?_); conv => whnf)
   | (refine ⟨fun _ => HasLe.of_le (by assumption), ?_⟩; conv => whnf)
   | (refine ⟨fun hst => (by cases (show true = false from hst)), ?_⟩; conv => whnf)
   | (intro (_ : Nat); conv => whnf)
   | (show cnd _ _ _; first
     | (refine cnd_eq (fun _ => ?_) (fun _ => ?_) <;> first | (exfalso; omega) | (conv => whnf)))
   | (show LdN _ _ _ _ _; first
     | (refine LdN.own 0 rfl rfl ?_; conv => whnf))
   | (show Ld _ _ _ _; first
     | (refine Ld.own 1 rfl rfl ?_; conv => whnf))
   | (show Sto _ _ _ _; first
     | (refine Sto.lit 0 rfl rfl rfl ?_; conv => whnf))
   | (show DrawN _ _ _ _ _ _; first
     | (refine DrawN.run (by decide +kernel) ?_; conv => whnf))
  all_goals exact RetN.all ⟨_, _, rfl, (by assumption)⟩

theorem fits16 (q : Rat) : fits q ↔ ln 65536 (nu q) ≤ 128 ∧ ln 65536 q.den ≤ 128 := by
  have h1 := ln_half (nu q)
  have h2 := ln_half q.den
  unfold fits
  omega
set_option maxRecDepth 20000 in
theorem Rat_ct (h : Heap) (a b : Sl) (q : Rat) (hq : IsQ h a b q) (hs : Sr 4294967296 q) : Fn0 T F.ref01_Rat [.agg #[.bool (sg q), a.val, b.val]] h fun v h' => ∃ c d : Sl, v = .agg #[.bool (sg q), c.val, d.val] ∧ IsRat h' c d q := by
  have i1 := hq.num
  have i2 := hq.den
  have h1 := hq.num.len
  have h2 := hq.den.len
  have h3 := hs.num
  have h4 := hs.den
  have d1 := q.den_nz
  have hsg : sg q = true → 0 < ln 65536 (nu q) := fun hh => by
    refine Nat.pos_of_ne_zero fun e => ?_
    have h0 := nu_eq_zero.1 ((ln_eq_zero two_le_b).1 e)
    rw [h0, sg_zero] at hh; cases hh
  refine fn0_of_codeI ok D.ref01_Rat rfl ?_
  conv => whnf
  repeat ((first | refine opsI.step ?_ | refine codeI.step ?_); conv => whnf)
  repeat' first
   | (show SeqN _ _ _ _ _ _ _; first
     | (refine SeqN.go ?_; conv => whnf))
   | (show CallN _ _ _ _ _ _; first
     | (refine CallN.quiet rfl (whole_q _ _ _ _ q.den (by (iterate 30 (try first | assumption | refine IsRef.mono ?_ (by assumption))); first | done | assumption) (by assumption) (by omega)) ?_; conv => whnf)
     | (refine CallN.fn rfl (list_ct _ _ (nu q) (by (iterate 30 (try first | assumption | refine IsRef.mono ?_ (by assumption))); first | done | assumption) (by omega)) (fun v h' hl hr => ?_); obtain ⟨s', rfl, hs'⟩ := hr; conv => whnf)
     | (refine CallN.fn rfl (list_ct _ _ q.den (by (iterate 30 (try first | assumption | refine IsRef.mono ?_ (by assumption))); first | done | assumption) (by omega)) (fun v h' hl hr => ?_); obtain ⟨s', rfl, hs'⟩ := hr; conv => whnf))
   | ((first | refine opsI.step ?_ | refine codeI.step ?_); conv => whnf)
   | (refine ⟨fun _ => HasLe.of_le (by assumption), ?_⟩; conv => whnf)
   | (refine ⟨fun _ => HasLe.cons _, ?_⟩; conv => whnf)
   | (refine ⟨fun hst => (by cases (show true = false from hst)), ?_⟩; conv => whnf)
   | (intro (_ : Nat); conv => whnf)
   | (show cnd _ _ _; first
     | (refine cnd_not ?_)
     | (refine cnd_dec (fun _ => ?_) (fun _ => ?_) <;> first | (exfalso; omega) | (conv => whnf))
     | (refine cnd_bool (fun _ => ?_) (fun _ => ?_) <;> (conv => whnf)))
   | (show LdN _ _ _ _ _; first
     | (refine LdN.own 0 rfl rfl ?_; conv => whnf)
     | (refine LdN.own 1 rfl rfl ?_; conv => whnf)
     | (refine LdN.own 2 rfl rfl ?_; conv => whnf))
   | (show Ld _ _ _ _; first
     | (refine Ld.own 1 rfl rfl ?_; conv => whnf)
     | (refine Ld.own 2 rfl rfl ?_; conv => whnf))
   | (show Sto _ _ _ _; first
     | (refine Sto.lit 0 rfl rfl rfl ?_; conv => whnf)
     | (refine Sto.lit 1 rfl rfl rfl ?_; conv => whnf))
   | (show DrawN _ _ _ _ _ _; first
     | (refine DrawN.run (by decide +kernel) ?_; conv => whnf))
   | (show Both _ _; first
     | (refine Both.mk ?_ ?_ <;> (conv => whnf)))
  all_goals first
    | exact RetN.all ⟨_, ⟨none, 0, 0⟩, by rw [show sg q = true by assumption, lt_true' (by have := hsg (by assumption); omega)] <;> rfl, ⟨(by assumption), by rw [if_pos (by assumption)]; exact IsNat.nil rfl⟩⟩
    | exact RetN.all ⟨_, _, by rw [show sg q = true by assumption, lt_true' (by have := hsg (by assumption); omega)] <;> rfl, ⟨(by (iterate 30 (try first | assumption | refine IsNat.mono ?_ (by assumption))); first | done | assumption), by rw [if_neg (by assumption)]; exact (by assumption)⟩⟩
    | exact RetN.all ⟨_, ⟨none, 0, 0⟩, by rw [show sg q = false by assumption] <;> rfl, ⟨(by assumption), by rw [if_pos (by assumption)]; exact IsNat.nil rfl⟩⟩
    | exact RetN.all ⟨_, _, by rw [show sg q = false by assumption] <;> rfl, ⟨(by (iterate 30 (try first | assumption | refine IsNat.mono ?_ (by assumption))); first | done | assumption), by rw [if_neg (by assumption)]; exact (by assumption)⟩⟩

theorem okR16 (neg : Bool) (l m : List Nat) : okR neg l m ↔ ln 65536 (evl 4294967296 l) ≤ 512 ∧ ln 65536 (evl 4294967296 m) ≤ 512 ∧ fits (ratOf neg l m) := by
  have h1 := ln_half (evl 4294967296 l)
  have h2 := ln_half (evl 4294967296 m)
  unfold okR
  constructor <;> intro ⟨a, b, c⟩ <;> exact ⟨by omega, by omega, c⟩
end Go.Proofs.YtdemgbmndijkkaaGreatDoor
/- Contracts of the reference's functions on rational numbers, third part: the layer's operations on two values. -/
namespace Go.Proofs.YtdemgbmndijkkaaGreatDoor
open Go Go.Vc Go.Dig

theorem Sr.of {k : Nat} {q : Rat} (s : Sz k q) : Sr (2 * k) q := by
  have h1 := lb_le (nu q)
  have h2 := lb_le q.den
  have := s.num
  have := s.den
  exact ⟨by omega, by omega⟩
theorem ratOf_sr2 {n : Bool} {l m : List Nat} (h : okR n l m) : Sr 128 (ratOf n l m) := Sr.of h.sz

set_option maxRecDepth 20000 in
theorem Int_ct (h : Heap) (n : Int) (h1 : 0 ≤ n) (h2 : n ≤ 9223372036854775807) :
    Fn0 T F.ref01_Int [.int .i64 n] h fun v h' => ∃ s t : Sl, v = .agg #[.bool (sg (n : Rat)), s.val, t.val] ∧ IsQ h' s t (n : Rat) := by
  obtain ⟨m, hm⟩ : ∃ m, m = n.natAbs := ⟨_, rfl⟩
  have e : (n : Rat) = mkQ false m 1 := by
    have := mkQ_self (n : Rat)
    rw [sg_int, nu_int, den_int, decide_eq_false (by omega), ← hm] at this
    exact this.symm
  have hnm : n = m := by omega
  have p1 : ln 65536 m ≤ 4 := (ln_le_iff two_le_b).2 (by omega)
  have p2 := ln_one 65536 two_le_b
  rw [e]
  refine fn0_of_codeI ok D.ref01_Int rfl ?_
  conv => whnf
  repeat ((first | refine opsI.step ?_ | refine codeI.step ?_); conv => whnf)
  repeat' first
   | (show WrapN _ _ _; first
     | (refine WrapN.u64v m (by omega) ?_; conv => whnf))
   | ((first | refine opsI.step ?_ | refine codeI.step ?_); conv => whnf)
   | (intro (_ : Nat); conv => whnf)
   | (show cnd _ _ _; first
     | (refine cnd_lt (fun _ => ?_) (fun _ => ?_) <;> first | (exfalso; omega) | (conv => whnf)))
  refine CallN.fn rfl (NatOf_ct _ m (by omega)) (fun v h' hl hr => ?_)
  obtain ⟨s', rfl, hs'⟩ := hr
  conv => whnf
  repeat ((first | refine opsI.step ?_ | refine codeI.step ?_); conv => whnf)
  refine CallN.fn rfl (NatOf_ct _ 1 (by omega)) (fun v h' hl hr => ?_)
  obtain ⟨t', rfl, ht'⟩ := hr
  conv => whnf
  repeat ((first | refine opsI.step ?_ | refine codeI.step ?_); conv => whnf)
  repeat' first
   | (show CallN _ _ _ _ _ _; first
     | (refine CallN.fn rfl (Make_ct _ _ _ _ m 1 (by (iterate 30 (try first | assumption | refine IsRef.mono ?_ (by assumption))); first | done | assumption) (by assumption) (by omega) (by omega)) (fun v h' hl hr => ?_); obtain ⟨a', b', rfl, hq'⟩ := hr; conv => whnf))
   | ((first | refine opsI.step ?_ | refine codeI.step ?_); conv => whnf)
   | (show LdN _ _ _ _ _; first
     | (refine LdN.own 0 rfl rfl ?_; conv => whnf))
   | (show Sto _ _ _ _; first
     | (refine Sto.lit 0 rfl rfl rfl ?_; conv => whnf))
  exact RetN.all ⟨_, _, rfl, (by assumption)⟩

set_option maxRecDepth 20000 in
theorem Diff_ct (h : Heap) (a b c d : Sl) (q r : Rat) (hq : IsQ h a b q) (hr : IsQ h c d r) (hs : Sr 1073741824 q) (hs' : Sr 1073741824 r) :
    Fn0 T F.ref01_Diff [.agg #[.bool (sg q), a.val, b.val], .agg #[.bool (sg r), c.val, d.val]] h fun v h' => ∃ s t : Sl, v = .agg #[.bool (sg (q - r)), s.val, t.val] ∧ IsQ h' s t (q - r) := by
  have y2 : Sr 1073741824 (-r) := Sr.neg hs'
  have y3 : Sr 1099511627776 r := hs'.mono (by decide)
  have h3 := IsQ.neg hr
  have e : q - r = q + -r := Rat.sub_eq_add_neg q r
  refine fn0_of_codeI ok D.ref01_Diff rfl ?_
  conv => whnf
  repeat ((first | refine opsI.step ?_ | refine codeI.step ?_); conv => whnf)
  repeat' first
   | (show CallN _ _ _ _ _ _; first
     | (refine CallN.quiet rfl (Opp_q _ _ _ _ (by assumption) y3) ?_; conv => whnf)
     | (refine CallN.fn rfl (Sum_ct _ _ _ _ _ _ _ (by assumption) (by assumption) hs y2) (fun v h' hl hr => ?_); obtain ⟨e1, e2, rfl, hq'⟩ := hr; conv => whnf))
   | ((first | refine opsI.step ?_ | refine codeI.step ?_); conv => whnf)
   | (refine ⟨fun _ => HasLe.of_le (Heap.le_refl _), ?_⟩; conv => whnf)
   | (refine ⟨fun _ => HasLe.of_le (by assumption), ?_⟩; conv => whnf)
   | (refine ⟨fun hst => (by cases (show true = false from hst)), ?_⟩; conv => whnf)
   | (intro (_ : Nat); conv => whnf)
   | (show LdN _ _ _ _ _; first
     | (refine LdN.own 0 rfl rfl ?_; conv => whnf)
     | (refine LdN.own 1 rfl rfl ?_; conv => whnf)
     | (refine LdN.own 2 rfl rfl ?_; conv => whnf))
   | (show Sto _ _ _ _; first
     | (refine Sto.lit 0 rfl rfl rfl ?_; conv => whnf))
   | (show DrawN _ _ _ _ _ _; first
     | (refine DrawN.run (by decide +kernel) ?_; conv => whnf))
  exact RetN.all ⟨_, _, by rw [e] <;> rfl, by rw [e]; exact (by assumption)⟩

theorem sr_add {k l : Nat} {q r : Rat} (a : Sr k q) (b : Sr l r) : Sr (k + l + 1) (q + r) := by
  have h := add_le q r
  have p1 := ln_mul two_le_b (nu q) r.den
  have p2 := ln_mul two_le_b (nu r) q.den
  have p3 := ln_mul two_le_b q.den r.den
  have p4 := ln_add two_le_b (nu q * r.den) (nu r * q.den)
  have a1 := a.num
  have a2 := a.den
  have b1 := b.num
  have b2 := b.den
  exact ⟨Nat.le_trans (ln_mono two_le_b h.1) (by omega), Nat.le_trans (ln_mono two_le_b h.2) (by omega)⟩
end Go.Proofs.YtdemgbmndijkkaaGreatDoor
/- Contracts of the statements' own helpers: when two results are the same. -/
namespace Go.Dig
/-- the denominator as it is written -/
def dn (q : Rat) : Nat := if q.den = 1 then 0 else q.den
end Go.Dig
namespace Go.Proofs.YtdemgbmndijkkaaGreatDoor
open Go Go.Vc Go.Dig

theorem dn_le (q : Rat) : dn q ≤ q.den := by unfold dn; split <;> omega
theorem israt_val {h : Heap} {a b : Sl} {q : Rat} (w : IsRat h a b q) (hs : Sz 1073741824 q) : IsVal h a b (dg 4294967296 (nu q)) (dg 4294967296 (dn q)) :=
  ⟨w.num, w.den, dg_lt two_le_B _, dg_lt two_le_B _, by have := hs.num; unfold ln at this; exact this, by
    have h1 := ln_le_of_le (dn_le q)
    have h2 := hs.den
    unfold ln at h1 h2; omega⟩
theorem ratOf_dg (q : Rat) : ratOf (sg q) (dg 4294967296 (nu q)) (dg 4294967296 (dn q)) = q := by
  unfold ratOf
  rw [evl_dg two_le_B, evl_dg two_le_B]
  have hd := q.den_nz
  have : (if dn q = 0 then 1 else dn q) = q.den := by
    unfold dn
    by_cases h1 : q.den = 1
    · rw [if_pos h1, if_pos rfl, h1]
    · rw [if_neg h1, if_neg hd]
  rw [this, mkQ_self]
theorem okR_dg {q : Rat} (hf : fits q) : okR (sg q) (dg 4294967296 (nu q)) (dg 4294967296 (dn q)) := by
  unfold okR
  rw [ratOf_dg, evl_dg two_le_B, evl_dg two_le_B]
  have h1 := ln_le_of_le (dn_le q)
  have h2 := hf.1
  have h3 := hf.2
  exact ⟨by omega, by omega, hf⟩

theorem cnd_self {x : Int} {p q : Prop} (hp : p) : cnd (eq x x) p q := by rw [Vc.eq_true' rfl]; exact hp
theorem eq_signs {q r : Rat} (hq : nu q ≠ 0) (hr : nu r ≠ 0) : q = r ↔ sg q = sg r ∧ nu q * r.den = nu r * q.den := by
  constructor
  · rintro rfl; exact ⟨rfl, rfl⟩
  · rintro ⟨h1, h2⟩
    rw [Rat.eq_iff_mul_eq_mul, num_eq q, num_eq r, h1]
    have e : (nu q : Int) * r.den = (nu r : Int) * q.den := by exact_mod_cast h2
    cases sg r
    · simpa using e
    · simp only [if_true, Int.neg_mul, e]
theorem dn_den (q : Rat) : (if dn q = 0 then 1 else dn q) = q.den := by
  have hd := q.den_nz
  unfold dn
  by_cases h1 : q.den = 1
  · rw [if_pos h1, if_pos rfl, h1]
  · rw [if_neg h1, if_neg hd]

end Go.Proofs.YtdemgbmndijkkaaGreatDoor
/- Contracts of the statements' own helpers, second part: None, Is, awake. -/
namespace Go.Proofs.YtdemgbmndijkkaaGreatDoor
open Go Go.Vc Go.Dig

theorem ws_one {h : Heap} {b : Nat} {x : Nat} : Ws .u32 (h.put b (.cells [.int .u32 x].toArray Ty.uint32 (0, 0))) ⟨some ⟨b, 0, none⟩, 1, 1⟩ [x] :=
  Ws.put rfl (Nat.le_refl _) fun i hi => match i, hi with | 0, _ => rfl

theorem dg_small {x : Nat} (h0 : x ≠ 0) (h : x < 4294967296) : dg 4294967296 x = [x] := by
  rw [dg_pos two_le_B h0, Nat.mod_eq_of_lt h, Nat.div_eq_of_lt h, dg_zero]
theorem fits_small {q : Rat} (h1 : nu q < 4294967296) (h2 : q.den < 4294967296) : fits q := by
  have a := (ln_le_iff (k := 1) two_le_B).2 (show nu q < 4294967296 ^ 1 by omega)
  have b := (ln_le_iff (k := 1) two_le_B).2 (show q.den < 4294967296 ^ 1 by omega)
  exact ⟨by omega, by omega⟩
theorem of_small {x y : Nat} (h1 : x < 4294967296) (h2 : y < 4294967296) (hy : y ≠ 0) : okR false [x] [y] ∧ ratOf false [x] [y] = mkQ false x y := by
  have e1 : evl 4294967296 [x] = x := by simp [evl_cons, evl_nil]
  have e2 : evl 4294967296 [y] = y := by simp [evl_cons, evl_nil]
  have e : ratOf false [x] [y] = mkQ false x y := by unfold ratOf; rw [e1, e2, if_neg hy]
  have hle := mkQ_le false (m := x) hy
  refine ⟨⟨?_, ?_, ?_⟩, e⟩
  · rw [e1]; exact Nat.le_trans ((ln_le_iff (k := 1) two_le_B).2 (by omega)) (by decide)
  · rw [e2]; exact Nat.le_trans ((ln_le_iff (k := 1) two_le_B).2 (by omega)) (by decide)
  · rw [e]; exact fits_small (by omega) (by omega)
theorem nu56 : nu (mkQ false 5 6) = 5 := by rw [nu_mkQ false (by decide)]; decide
theorem den56 : (mkQ false 5 6).den = 6 := by rw [den_mkQ false (by decide)]; decide
theorem five_sixths : mkQ false 1 2 + mkQ false 1 3 = mkQ false 5 6 := by unfold mkQ; decide +kernel
theorem awake_val : spec2 (· + ·) false [1] [2] false [1] [3] = (mkQ false 5 6, 0) := by
  obtain ⟨a1, a2⟩ := of_small (x := 1) (y := 2) (by decide) (by decide) (by decide)
  obtain ⟨b1, b2⟩ := of_small (x := 1) (y := 3) (by decide) (by decide) (by decide)
  have hle := mkQ_le false (m := 5) (n := 6) (by decide)
  unfold spec2
  rw [if_pos ⟨a1, b1⟩]
  show outR (ratOf false [1] [2] + ratOf false [1] [3]) = _
  rw [a2, b2, five_sixths]
  exact if_pos (fits_small (by omega) (by omega))

end Go.Proofs.YtdemgbmndijkkaaGreatDoor
/- What the statements on sums, differences and middles compute: true. -/
namespace Go.Proofs.YtdemgbmndijkkaaGreatDoor
open Go Go.Vc Go.Dig

/-- a result: small, and 0 beside an error -/
structure Rok (p : Rat × Int) : Prop where
  sz : Sz 1073741824 p.1
  err : p.2 ≠ 0 → p.1 = 0
theorem sz_zero (k : Nat) : Sz (k + 1) 0 := ⟨by rw [nu_zero, ln_zero]; omega, by rw [show (0 : Rat).den = 1 from rfl, ln_one _ two_le_B]; omega⟩
theorem Rok.err1 (e : Int) : Rok (0, e) := ⟨(sz_zero 0).mono (by decide), fun _ => rfl⟩
theorem Rok.out (q : Rat) : Rok (outR q) := by
  unfold outR
  split
  · rename_i h; exact ⟨⟨Nat.le_trans h.1 (by decide), Nat.le_trans h.2 (by decide)⟩, fun x => absurd rfl x⟩
  · exact Rok.err1 1
theorem Rok.spec2 (op : Rat → Rat → Rat) (n1 : Bool) (l1 m1 : List Nat) (n2 : Bool) (l2 m2 : List Nat) : Rok (Proofs.YtdemgbmndijkkaaGreatDoor.spec2 op n1 l1 m1 n2 l2 m2) := by
  unfold Proofs.YtdemgbmndijkkaaGreatDoor.spec2
  split
  · exact Rok.out _
  · exact Rok.err1 1

end Go.Proofs.YtdemgbmndijkkaaGreatDoor