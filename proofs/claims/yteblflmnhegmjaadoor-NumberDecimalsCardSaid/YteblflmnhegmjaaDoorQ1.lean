/- Contracts of the reference's functions on rational numbers, first part. -/
import Derived.Test.YteblflmnhegmjaaDoorR6
import Derived.Test.YteblflmnhegmjaaDoorRepC
import Derived.Test.YteblflmnhegmjaaDoorW10
set_option linter.unusedVariables false
set_option linter.unusedSimpArgs false
namespace Go.Dig
theorem mkQ_den0 (neg : Bool) (m : Nat) : mkQ neg m 0 = 0 := by unfold mkQ; simp
theorem mkQ_one (neg : Bool) {m : Nat} (hm : m ≠ 0) : sg (mkQ neg m 1) = neg ∧ nu (mkQ neg m 1) = m ∧ (mkQ neg m 1).den = 1 := by
  rw [sg_mkQ neg (by decide), nu_mkQ neg (by decide), den_mkQ neg (by decide)]; simp [hm]
theorem lb_le (m : Nat) : ln 65536 m ≤ 2 * ln 4294967296 m := by have := ln_half m; omega
end Go.Dig
namespace Go.Proofs.YteblflmnhegmjaaDoor
open Go Go.Vc Go.Dig

/-- numerator and denominator of a rational number, as the reference has them -/
structure IsQ (h : Heap) (a b : Sl) (q : Rat) : Prop where
  num : IsRef h a (nu q)
  den : IsRef h b q.den
theorem IsQ.mono {h h' : Heap} {a b : Sl} {q : Rat} (w : IsQ h a b q) (hl : h.le h') : IsQ h' a b q := ⟨w.num.mono hl, w.den.mono hl⟩
/-- its size in digits -/
structure Sr (k : Nat) (q : Rat) : Prop where
  num : ln 65536 (nu q) ≤ k
  den : ln 65536 q.den ≤ k
theorem Sr.mono {k l : Nat} {q : Rat} (s : Sr k q) (h : k ≤ l) : Sr l q := ⟨Nat.le_trans s.num h, Nat.le_trans s.den h⟩
theorem IsRef.nil {h : Heap} {s : Sl} (h0 : s.l = 0) : IsRef h s 0 := by unfold IsRef; rw [dg_zero]; exact Ws.nil h0

theorem den_q (h : Heap) (neg : Bool) (a b : Sl) (d : Nat) (hb : IsRef h b d) (h0 : d ≠ 0) (lb : ln 65536 d ≤ 1099511627776) : Fn0 T F.ref01_Q_den [.agg #[.bool neg, a.val, b.val]] h fun v h' => h' = h ∧ v = b.val := by
  have hl := hb.len
  have hn1 : 1 ≤ ln 65536 d := Nat.pos_of_ne_zero fun e => h0 ((ln_eq_zero two_le_b).1 e)
  refine fn0_of_codeI ok D.ref01_Q_den rfl ?_
  conv => whnf
  repeat ((first | refine opsI.step ?_ | refine codeI.step ?_); conv => whnf)
  repeat' first
   | ((first | refine opsI.step ?_ | refine codeI.step ?_); conv => whnf)
   | (intro (_ : Nat); conv => whnf)
   | (show cnd _ _ _; first
     | (refine cnd_eq (fun _ => ?_) (fun _ => ?_) <;> first | (exfalso; omega) | (conv => whnf)))
   | (show Ld _ _ _ _; first
     | (refine Ld.own 0 rfl rfl ?_; conv => whnf))
  exact RetN.all ⟨rfl, rfl⟩
theorem den_ct (h : Heap) (neg : Bool) (a b : Sl) (d : Nat) (hb : IsRef h b d) (lb : ln 65536 d ≤ 1099511627776) : Fn0 T F.ref01_Q_den [.agg #[.bool neg, a.val, b.val]] h fun v h' => ∃ s : Sl, v = s.val ∧ IsRef h' s (if d = 0 then 1 else d) := by
  have hl := hb.len
  have hz := ln_eq_zero two_le_b (n := d)
  refine fn0_of_codeI ok D.ref01_Q_den rfl ?_
  conv => whnf
  repeat ((first | refine opsI.step ?_ | refine codeI.step ?_); conv => whnf)
  by_cases h0 : d = 0
  · have h1 := hz.2 h0
    clear hz
    repeat' first
     | (show CallN _ _ _ _ _ _; first
       | (refine CallN.fn rfl (NatOf_ct _ 1 (by omega)) (fun v h' hl hr => ?_); obtain ⟨s', rfl, hs'⟩ := hr; conv => whnf))
     | ((first | refine opsI.step ?_ | refine codeI.step ?_); conv => whnf)
     | (intro (_ : Nat); conv => whnf)
     | (show cnd _ _ _; first
       | (refine cnd_eq (fun _ => ?_) (fun _ => ?_) <;> first | (exfalso; omega) | (conv => whnf)))
     | (show Ld _ _ _ _; first
       | (refine Ld.own 0 rfl rfl ?_; conv => whnf))
    exact RetN.all ⟨s', rfl, by rw [if_pos h0]; exact hs'⟩
  · have h1 : ln 65536 d ≠ 0 := fun e => h0 (hz.1 e)
    clear hz
    repeat' first
     | ((first | refine opsI.step ?_ | refine codeI.step ?_); conv => whnf)
     | (intro (_ : Nat); conv => whnf)
     | (show cnd _ _ _; first
       | (refine cnd_eq (fun _ => ?_) (fun _ => ?_) <;> first | (exfalso; omega) | (conv => whnf)))
     | (show Ld _ _ _ _; first
       | (refine Ld.own 0 rfl rfl ?_; conv => whnf))
    exact RetN.all ⟨b, rfl, by rw [if_neg h0]; exact hb⟩

set_option maxRecDepth 20000 in
set_option maxHeartbeats 1000000 in
theorem Make_ct (h : Heap) (neg : Bool) (a b : Sl) (m n : Nat) (ha : IsRef h a m) (hb : IsRef h b n) (la : ln 65536 m ≤ 4294967296) (lb : ln 65536 n ≤ 4294967296) :
    Fn0 T F.ref01_Make [.bool neg, a.val, b.val] h fun v h' => ∃ a' b' : Sl, v = .agg #[.bool (sg (mkQ neg m n)), a'.val, b'.val] ∧ IsQ h' a' b' (mkQ neg m n) := by
  have hal := ha.len
  have hbl := hb.len
  have hzm := ln_eq_zero two_le_b (n := m)
  have hzn := ln_eq_zero two_le_b (n := n)
  have zero : mkQ neg m n = 0 → ∀ h' (s : Sl), IsRef h' s 1 → ∃ a' b' : Sl, Value.agg #[.bool false, .slice none 0 0, s.val] = .agg #[.bool (sg (mkQ neg m n)), a'.val, b'.val] ∧ IsQ h' a' b' (mkQ neg m n) := fun e h' s hs => by
    rw [e, sg_zero]
    exact ⟨⟨none, 0, 0⟩, s, rfl, ⟨by rw [nu_zero]; exact IsRef.nil rfl, hs⟩⟩
  refine fn0_of_codeI ok D.ref01_Make rfl ?_
  conv => whnf
  repeat ((first | refine opsI.step ?_ | refine codeI.step ?_); conv => whnf)
  by_cases hm : m = 0
  · have h1 := hzm.2 hm
    clear hzm hzn
    repeat' first
     | (show CallN _ _ _ _ _ _; first
       | (refine CallN.fn rfl (NatOf_ct _ 1 (by omega)) (fun v h' hl hr => ?_); obtain ⟨s', rfl, hs'⟩ := hr; conv => whnf))
     | ((first | refine opsI.step ?_ | refine codeI.step ?_); conv => whnf)
     | (intro (_ : Nat); conv => whnf)
     | (show cnd _ _ _; first
       | (refine cnd_eq (fun _ => ?_) (fun _ => ?_) <;> first | (exfalso; omega) | (conv => whnf)))
     | (show LdN _ _ _ _ _; first
       | (refine LdN.own 0 rfl rfl ?_; conv => whnf))
     | (show Sto _ _ _ _; first
       | (refine Sto.lit 0 rfl rfl rfl ?_; conv => whnf))
    all_goals exact RetN.all (zero (by rw [hm, mkQ_zero]) _ _ ‹_›)
  by_cases hn : n = 0
  · have h1 := hzn.2 hn
    have h2 : ln 65536 m ≠ 0 := fun e => hm (hzm.1 e)
    clear hzm hzn
    repeat' first
     | (show CallN _ _ _ _ _ _; first
       | (refine CallN.fn rfl (NatOf_ct _ 1 (by omega)) (fun v h' hl hr => ?_); obtain ⟨s', rfl, hs'⟩ := hr; conv => whnf))
     | ((first | refine opsI.step ?_ | refine codeI.step ?_); conv => whnf)
     | (intro (_ : Nat); conv => whnf)
     | (show cnd _ _ _; first
       | (refine cnd_eq (fun _ => ?_) (fun _ => ?_) <;> first | (exfalso; omega) | (conv => whnf)))
     | (show LdN _ _ _ _ _; first
       | (refine LdN.own 0 rfl rfl ?_; conv => whnf))
     | (show Sto _ _ _ _; first
       | (refine Sto.lit 0 rfl rfl rfl ?_; conv => whnf))
    all_goals exact RetN.all (zero (by rw [hn, mkQ_den0]) _ _ ‹_›)
  have h1 : ln 65536 m ≠ 0 := fun e => hm (hzm.1 e)
  have h2 : ln 65536 n ≠ 0 := fun e => hn (hzn.1 e)
  have hone : ln 65536 n = 1 → (dg 65536 n).getD 0 0 = n := fun e => (one_digit16 e).1
  have e1 := sg_mkQ neg (m := m) hn
  have e2 := nu_mkQ neg (m := m) hn
  have e3 := den_mkQ neg (m := m) hn
  rw [show (neg && decide (m ≠ 0)) = neg by simp [hm]] at e1
  have hg0 : Nat.gcd m n ≠ 0 := by have := Nat.gcd_pos_of_pos_right m (Nat.pos_of_ne_zero hn); omega
  have hgl : ln 65536 (Nat.gcd m n) ≤ ln 65536 n := ln_mono two_le_b (Nat.gcd_le_right _ (by omega))
  replace e1 := Hq.mk e1
  replace e2 := Hq.mk e2
  replace e3 := Hq.mk e3
  clear hzm hzn zero
  repeat' first
   | (show CallN _ _ _ _ _ _; first
     | (refine CallN.fn rfl (NatOf_ct _ 1 (by omega)) (fun v h' hl hr => ?_); obtain ⟨s', rfl, hs'⟩ := hr; conv => whnf)
     | (refine CallN.fn rfl (NatGcd_ct _ _ _ _ _ (by assumption) (by assumption) (by omega) (by omega)) (fun v h' hl hr => ?_); obtain ⟨s', rfl, hs'⟩ := hr; conv => whnf)
     | (refine CallN.fn rfl (NatDiv_ct _ _ _ _ _ (by (iterate 30 (try first | assumption | refine Ws.mono ?_ (by assumption))); first | done | assumption) (by (iterate 30 (try first | assumption | refine Ws.mono ?_ (by assumption))); first | done | assumption) (by omega) (by omega) (by first | assumption | omega)) (fun v h' hl hr => ?_); obtain ⟨q', r', rfl, hq', hr'⟩ := hr; conv => whnf))
   | (show Idx _ _ _ _ _; first
     | (refine Idx.ws hb 0 (by omega) (by unfold ln at *; omega) (fun ad hv => ?_); conv => whnf))
   | (show Ld _ _ _ _; first
     | (refine Ld.of (by first | exact hv _ | (rename_i hv; exact hv _)) ?_; conv => whnf))
   | (show App _ _ _ _ _ _ _ _ _; first
     | (refine App.fresh rfl ha (by unfold ln at *; omega) (by decide) (fun h' s' hl w' => ?_); conv => whnf))
   | ((first | refine opsI.step ?_ | refine codeI.step ?_); conv => whnf)
   | (intro (_ : Nat); conv => whnf)
   | (show cnd _ _ _; first
     | (refine cnd_eq (fun _ => ?_) (fun _ => ?_) <;> first | (exfalso; omega) | (conv => whnf)))
   | (show LdN _ _ _ _ _; first
     | (refine LdN.own 0 rfl rfl ?_; conv => whnf))
   | (show Sto _ _ _ _; first
     | (refine Sto.lit 0 rfl rfl rfl ?_; conv => whnf))
  · have hn1 : n = 1 := by have := hone (by omega); omega
    rw [hn1, Nat.gcd_one_right, Nat.div_one] at e2
    rw [hn1, Nat.gcd_one_right, Nat.div_one] at e3
    rw [hn1] at e1 ⊢
    exact RetN.all ⟨_, s', by rw [e1.out] <;> rfl, ⟨by rw [e2.out]; exact (by (iterate 30 (try first | assumption | refine IsRef.mono ?_ (by assumption))); first | done | assumption), by rw [e3.out]; exact (by assumption)⟩⟩
  all_goals exact RetN.all ⟨_, _, by rw [e1.out] <;> rfl, ⟨by rw [e2.out]; exact (by (iterate 30 (try first | assumption | refine IsRef.mono ?_ (by assumption))); first | done | assumption), by rw [e3.out]; exact (by assumption)⟩⟩

theorem whole_q (h : Heap) (neg : Bool) (a b : Sl) (d : Nat) (hd : IsRef h b d) (h0 : d ≠ 0) (lb : ln 65536 d ≤ 1099511627776) : Fn0 T F.ref01_Q_whole [.agg #[.bool neg, a.val, b.val]] h fun v h' => h' = h ∧ v = .bool (dec (d = 1)) := by
  have hl := hd.len
  have hn1 : 1 ≤ ln 65536 d := Nat.pos_of_ne_zero fun e => h0 ((ln_eq_zero two_le_b).1 e)
  have hone : ln 65536 d = 1 → (dg 65536 d).getD 0 0 = d := fun e => (one_digit16 e).1
  have hd1 : d = 1 → ln 65536 d = 1 := fun e => by rw [e]; exact ln_one _ two_le_b
  refine fn0_of_codeI ok D.ref01_Q_whole rfl ?_
  conv => whnf
  repeat ((first | refine opsI.step ?_ | refine codeI.step ?_); conv => whnf)
  repeat' first
   | (show Idx _ _ _ _ _; first
     | (refine Idx.ws hd 0 (by omega) (by unfold ln at *; omega) (fun ad hv => ?_); conv => whnf))
   | (show Ld _ _ _ _; first
     | (refine Ld.of (by first | exact hv _ | (rename_i hv; exact hv _)) ?_; conv => whnf)
     | (refine Ld.own 0 rfl rfl ?_; conv => whnf))
   | ((first | refine opsI.step ?_ | refine codeI.step ?_); conv => whnf)
   | (intro (_ : Nat); conv => whnf)
   | (show cnd _ _ _; first
     | (refine cnd_eq (fun _ => ?_) (fun _ => ?_) <;> first | (exfalso; omega) | (conv => whnf)))
  all_goals refine RetN.all ⟨rfl, ?_⟩
  · have e := hone (by omega)
    rw [e]
    by_cases h1 : d = 1
    · rw [dec_true h1, Vc.eq_true' (by omega)]
    · rw [dec_false h1, Vc.eq_false' (by omega)]
  · rw [dec_false (fun e => by have := hd1 e; omega)]

theorem Sgn_q (h : Heap) (a b : Sl) (q : Rat) (hq : IsQ h a b q) (hs : Sr 1099511627776 q) : Fn0 T F.ref01_Sgn [.agg #[.bool (sg q), a.val, b.val]] h fun v h' => h' = h ∧ v = .int .i64 (signQ q) := by
  have h1 := hq.num.len
  have h3 := hs.num
  have hz := ln_eq_zero two_le_b (n := nu q)
  refine fn0_of_codeI ok D.ref01_Sgn rfl ?_
  conv => whnf
  repeat ((first | refine opsI.step ?_ | refine codeI.step ?_); conv => whnf)
  by_cases h0 : nu q = 0
  · have h4 := hz.2 h0
    clear hz
    repeat' first
     | ((first | refine opsI.step ?_ | refine codeI.step ?_); conv => whnf)
     | (intro (_ : Nat); conv => whnf)
     | (show cnd _ _ _; first
       | (refine cnd_eq (fun _ => ?_) (fun _ => ?_) <;> first | (exfalso; omega) | (conv => whnf)))
     | (show Ld _ _ _ _; first
       | (refine Ld.own 0 rfl rfl ?_; conv => whnf))
    exact RetN.all ⟨rfl, vi (by unfold signQ; rw [if_pos h0])⟩
  · have h4 : ln 65536 (nu q) ≠ 0 := fun e => h0 (hz.1 e)
    clear hz
    repeat' first
     | ((first | refine opsI.step ?_ | refine codeI.step ?_); conv => whnf)
     | (intro (_ : Nat); conv => whnf)
     | (show cnd _ _ _; first
       | (refine cnd_eq (fun _ => ?_) (fun _ => ?_) <;> first | (exfalso; omega) | (conv => whnf))
       | (refine cnd_bool (fun _ => ?_) (fun _ => ?_) <;> (conv => whnf)))
     | (show Ld _ _ _ _; first
       | (refine Ld.own 0 rfl rfl ?_; conv => whnf))
    · exact RetN.all ⟨rfl, vi (by unfold signQ; rw [if_neg h0, if_pos (by assumption)])⟩
    · exact RetN.all ⟨rfl, vi (by unfold signQ; rw [if_neg h0, if_neg (by simp_all)])⟩

theorem Opp_q (h : Heap) (a b : Sl) (q : Rat) (hq : IsQ h a b q) (hs : Sr 1099511627776 q) : Fn0 T F.ref01_Opp [.agg #[.bool (sg q), a.val, b.val]] h fun v h' => h' = h ∧ v = .agg #[.bool (sg (-q)), a.val, b.val] := by
  have h1 := hq.num.len
  have h3 := hs.num
  have e := sg_neg q
  have hz := ln_eq_zero two_le_b (n := nu q)
  refine fn0_of_codeI ok D.ref01_Opp rfl ?_
  conv => whnf
  repeat ((first | refine opsI.step ?_ | refine codeI.step ?_); conv => whnf)
  repeat' first
   | ((first | refine opsI.step ?_ | refine codeI.step ?_); conv => whnf)
   | (intro (_ : Nat); conv => whnf)
   | (show cnd _ _ _; first
     | (refine cnd_not ?_)
     | (refine cnd_bool (fun _ => ?_) (fun _ => ?_) <;> (conv => whnf)))
   | (show LdN _ _ _ _ _; first
     | (refine LdN.own 0 rfl rfl ?_; conv => whnf))
   | (show Ld _ _ _ _; first
     | (refine Ld.own 1 rfl rfl ?_; conv => whnf))
   | (show Sto _ _ _ _; first
     | (refine Sto.lit 0 rfl rfl rfl ?_; conv => whnf))
  · refine RetN.all ⟨rfl, ?_⟩
    rw [e]; simp_all
  · refine RetN.all ⟨rfl, ?_⟩
    have e1 : lt 0 (a.l : Int) = decide (nu q ≠ 0) := by
      by_cases h0 : nu q = 0
      · have := hz.2 h0
        rw [lt_false' (by omega)]; simp [h0]
      · have : ln 65536 (nu q) ≠ 0 := fun e => h0 (hz.1 e)
        rw [lt_true' (by omega)]; simp [h0]
    rw [e, show sg q = false by assumption]
    show Value.agg #[.bool (lt 0 (a.l : Int)), a.val, b.val] = _
    rw [e1]; simp
theorem IsQ.neg {h : Heap} {a b : Sl} {q : Rat} (w : IsQ h a b q) : IsQ h a b (-q) := ⟨by rw [nu_neg]; exact w.num, by rw [Rat.neg_den]; exact w.den⟩
theorem Sr.neg {k : Nat} {q : Rat} (s : Sr k q) : Sr k (-q) := ⟨by rw [nu_neg]; exact s.num, by rw [Rat.neg_den]; exact s.den⟩

set_option maxRecDepth 20000 in
theorem Quo_ct (h : Heap) (a b c d : Sl) (q r : Rat) (hq : IsQ h a b q) (hr : IsQ h c d r) (hs : Sr 1073741824 q) (hs' : Sr 1073741824 r) :
    Fn0 T F.ref01_Div [.agg #[.bool (sg q), a.val, b.val], .agg #[.bool (sg r), c.val, d.val]] h fun v h' => ∃ s t : Sl, v = .agg #[.bool (sg (q / r)), s.val, t.val] ∧ IsQ h' s t (q / r) := by
  have e := div_q' q r
  rw [ne_beq] at e
  have i1 := hq.num
  have i2 := hq.den
  have i3 := hr.num
  have i4 := hr.den
  have l1 := hs.num
  have l2 := hs.den
  have l3 := hs'.num
  have l4 := hs'.den
  have d1 := q.den_nz
  have d2 := r.den_nz
  have p1 := ln_mul two_le_b (nu q) r.den
  have p2 := ln_mul two_le_b q.den (nu r)
  refine fn0_of_codeI ok D.ref01_Div rfl ?_
  conv => whnf
  repeat ((first | refine opsI.step ?_ | refine codeI.step ?_); conv => whnf)
  repeat' first
   | (show CallN _ _ _ _ _ _; first
     | (refine CallN.quiet rfl (den_q _ _ _ _ _ (by (iterate 30 (try first | assumption | refine Ws.mono ?_ (by assumption))); first | done | assumption) (by first | assumption | omega) (by omega)) ?_; conv => whnf)
     | (refine CallN.fn rfl (NatMul_ct _ _ _ _ _ (by (iterate 30 (try first | assumption | refine Ws.mono ?_ (by assumption))); first | done | assumption) (by (iterate 30 (try first | assumption | refine Ws.mono ?_ (by assumption))); first | done | assumption) (by omega) (by omega)) (fun v h' hl hr => ?_); obtain ⟨s', rfl, hs'⟩ := hr; conv => whnf)
     | (refine CallN.fn rfl (Make_ct _ _ _ _ _ _ (by (iterate 30 (try first | assumption | refine Ws.mono ?_ (by assumption))); first | done | assumption) (by assumption) (by omega) (by omega)) (fun v h' hl hr => ?_); obtain ⟨a', b', rfl, hq'⟩ := hr; have hqn' := hq'.num; have hqd' := hq'.den; conv => whnf))
   | ((first | refine opsI.step ?_ | refine codeI.step ?_); conv => whnf)
   | (refine ⟨fun _ => HasLe.of_le (Heap.le_refl _), ?_⟩; conv => whnf)
   | (refine ⟨fun _ => HasLe.of_le (by assumption), ?_⟩; conv => whnf)
   | (refine ⟨fun hst => (by cases (show true = false from hst)), ?_⟩; conv => whnf)
   | (intro (_ : Nat); conv => whnf)
   | (show LdN _ _ _ _ _; first
     | (refine LdN.own 0 rfl rfl ?_; conv => whnf)
     | (refine LdN.own 1 rfl rfl ?_; conv => whnf)
     | (refine LdN.own 2 rfl rfl ?_; conv => whnf))
   | (show Ld _ _ _ _; first
     | (refine Ld.own 1 rfl rfl ?_; conv => whnf)
     | (refine Ld.own 2 rfl rfl ?_; conv => whnf))
   | (show Sto _ _ _ _; first
     | (refine Sto.lit 0 rfl rfl rfl ?_; conv => whnf))
   | (show DrawN _ _ _ _ _ _; first
     | (refine DrawN.run (by decide +kernel) ?_; conv => whnf))
  all_goals exact RetN.all ⟨_, _, by rw [e] <;> rfl, by rw [e]; exact (by assumption)⟩

set_option maxRecDepth 20000 in
set_option maxHeartbeats 1000000 in
theorem Sum_ct (h : Heap) (a b c d : Sl) (q r : Rat) (hq : IsQ h a b q) (hr : IsQ h c d r) (hs : Sr 1073741824 q) (hs' : Sr 1073741824 r) :
    Fn0 T F.ref01_Sum [.agg #[.bool (sg q), a.val, b.val], .agg #[.bool (sg r), c.val, d.val]] h fun v h' => ∃ s t : Sl, v = .agg #[.bool (sg (q + r)), s.val, t.val] ∧ IsQ h' s t (q + r) := by
  have i1 := hq.num
  have i2 := hq.den
  have i3 := hr.num
  have i4 := hr.den
  have l1 := hs.num
  have l2 := hs.den
  have l3 := hs'.num
  have l4 := hs'.den
  have d1 := q.den_nz
  have d2 := r.den_nz
  have p1 := ln_mul two_le_b (nu q) r.den
  have p2 := ln_mul two_le_b (nu r) q.den
  have p3 := ln_mul two_le_b q.den r.den
  have e1 := Hq.mk (add_same (q := q) (r := r))
  have e2 := Hq.mk (add_ge (q := q) (r := r))
  have e3 := Hq.mk (add_lt (q := q) (r := r))
  obtain ⟨x, hx⟩ : ∃ x, x = nu q * r.den := ⟨_, rfl⟩
  obtain ⟨y, hy⟩ : ∃ y, y = nu r * q.den := ⟨_, rfl⟩
  obtain ⟨z, hz⟩ : ∃ z, z = q.den * r.den := ⟨_, rfl⟩
  have p4 := ln_add two_le_b x y
  have p5 := ln_mono two_le_b (Nat.sub_le x y)
  have p6 := ln_mono two_le_b (Nat.sub_le y x)
  rw [← hx, ← hy, ← hz] at e1 e2 e3
  rw [← hx] at p1
  rw [← hy] at p2
  rw [← hz] at p3
  have hcl := cmp_le (m := x) (n := y)
  have hcn := cmp_neg (m := x) (n := y)
  refine fn0_of_codeI ok D.ref01_Sum rfl ?_
  conv => whnf
  repeat ((first | refine opsI.step ?_ | refine codeI.step ?_); conv => whnf)
  repeat' first
   | (show CallN _ _ _ _ _ _; first
     | (refine CallN.quiet rfl (den_q _ _ _ _ _ (by (iterate 30 (try first | assumption | refine Ws.mono ?_ (by assumption))); first | done | assumption) (by first | assumption | omega) (by omega)) ?_; conv => whnf)
     | (refine CallN.fn rfl (NatMul_ct _ _ _ (nu q) r.den (by (iterate 30 (try first | assumption | refine IsRef.mono ?_ (by assumption))); first | done | assumption) (by assumption) (by omega) (by omega)) (fun v h' hl hr => ?_); rw [← hx] at hr; obtain ⟨s', rfl, hs'⟩ := hr; conv => whnf)
     | (refine CallN.fn rfl (NatMul_ct _ _ _ (nu r) q.den (by (iterate 30 (try first | assumption | refine IsRef.mono ?_ (by assumption))); first | done | assumption) (by (iterate 30 (try first | assumption | refine IsRef.mono ?_ (by assumption))); first | done | assumption) (by omega) (by omega)) (fun v h' hl hr => ?_); rw [← hy] at hr; obtain ⟨s', rfl, hs'⟩ := hr; conv => whnf)
     | (refine CallN.fn rfl (NatMul_ct _ _ _ q.den r.den (by (iterate 30 (try first | assumption | refine IsRef.mono ?_ (by assumption))); first | done | assumption) (by (iterate 30 (try first | assumption | refine IsRef.mono ?_ (by assumption))); first | done | assumption) (by omega) (by omega)) (fun v h' hl hr => ?_); rw [← hz] at hr; obtain ⟨s', rfl, hs'⟩ := hr; conv => whnf)
     | (refine CallN.fn rfl (NatAdd_ct _ _ _ _ _ (by (iterate 30 (try first | assumption | refine Ws.mono ?_ (by assumption))); first | done | assumption) (by (iterate 30 (try first | assumption | refine Ws.mono ?_ (by assumption))); first | done | assumption) (by omega) (by omega)) (fun v h' hl hr => ?_); obtain ⟨s', rfl, hs'⟩ := hr; conv => whnf)
     | (refine CallN.fn rfl (NatSub_ct _ _ _ _ _ (by (iterate 30 (try first | assumption | refine Ws.mono ?_ (by assumption))); first | done | assumption) (by (iterate 30 (try first | assumption | refine Ws.mono ?_ (by assumption))); first | done | assumption) (by omega) (by omega)) (fun v h' hl hr => ?_); obtain ⟨s', rfl, hs'⟩ := hr; conv => whnf)
     | (refine CallN.quiet rfl (NatCmp_ct _ _ _ _ _ (by (iterate 30 (try first | assumption | refine Ws.mono ?_ (by assumption))); first | done | assumption) (by (iterate 30 (try first | assumption | refine Ws.mono ?_ (by assumption))); first | done | assumption) (by omega) (by omega)) ?_; conv => whnf)
     | (refine CallN.fn rfl (Make_ct _ _ _ _ _ _ (by assumption) (by (iterate 30 (try first | assumption | refine Ws.mono ?_ (by assumption))); first | done | assumption) (by omega) (by omega)) (fun v h' hl hr => ?_); obtain ⟨a', b', rfl, hq'⟩ := hr; have hqn' := hq'.num; have hqd' := hq'.den; conv => whnf))
   | ((first | refine opsI.step ?_ | refine codeI.step ?_); conv => whnf)
   | (refine ⟨fun _ => HasLe.of_le (Heap.le_refl _), ?_⟩; conv => whnf)
   | (refine ⟨fun _ => HasLe.of_le (by assumption), ?_⟩; conv => whnf)
   | (refine ⟨fun hst => (by cases (show true = false from hst)), ?_⟩; conv => whnf)
   | (intro (_ : Nat); conv => whnf)
   | (show cnd _ _ _; first
     | (refine cnd_le (fun _ => ?_) (fun _ => ?_) <;> first | (exfalso; omega) | (conv => whnf))
     | (refine cnd_beq (fun _ => ?_) (fun hne => ?_) <;> first | exact absurd rfl hne | (conv => whnf)))
   | (show LdN _ _ _ _ _; first
     | (refine LdN.own 0 rfl rfl ?_; conv => whnf)
     | (refine LdN.own 1 rfl rfl ?_; conv => whnf)
     | (refine LdN.own 2 rfl rfl ?_; conv => whnf))
   | (show Ld _ _ _ _; first
     | (refine Ld.own 1 rfl rfl ?_; conv => whnf)
     | (refine Ld.own 2 rfl rfl ?_; conv => whnf))
   | (show Sto _ _ _ _; first
     | (refine Sto.lit 0 rfl rfl rfl ?_; conv => whnf))
   | (show DrawN _ _ _ _ _ _; first
     | (refine DrawN.run (by decide +kernel) ?_; conv => whnf))
  · exact RetN.all ⟨_, _, by rw [e1.out (by assumption)] <;> rfl, by rw [e1.out (by assumption)]; exact (by assumption)⟩
  · exact RetN.all ⟨_, _, by rw [e2.out (by assumption) (by omega)] <;> rfl, by rw [e2.out (by assumption) (by omega)]; exact (by assumption)⟩
  · exact RetN.all ⟨_, _, by rw [e3.out (by assumption) (by omega)] <;> rfl, by rw [e3.out (by assumption) (by omega)]; exact (by assumption)⟩
end Go.Proofs.YteblflmnhegmjaaDoor
