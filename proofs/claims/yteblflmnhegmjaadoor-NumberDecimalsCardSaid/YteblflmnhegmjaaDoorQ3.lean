/- Contracts of the reference's functions on rational numbers, third part: the layer's operations on two values. -/
import Derived.Test.YteblflmnhegmjaaDoorQ2
import Derived.Test.YteblflmnhegmjaaDoorN1
set_option linter.unusedVariables false
set_option linter.unusedSimpArgs false
namespace Go.Proofs.YteblflmnhegmjaaDoor
open Go Go.Vc Go.Dig

theorem Sr.of {k : Nat} {q : Rat} (s : Sz k q) : Sr (2 * k) q := by
  have h1 := lb_le (nu q)
  have h2 := lb_le q.den
  have := s.num
  have := s.den
  exact ⟨by omega, by omega⟩
theorem ratOf_sr2 {n : Bool} {l m : List Nat} (h : okR n l m) : Sr 128 (ratOf n l m) := Sr.of h.sz

set_option maxRecDepth 20000 in
set_option maxHeartbeats 1000000 in
theorem anyLarge_ct (h : Heap) (b : Nat) (fz : Nat × Nat) (n1 : Bool) (a1 b1 : Sl) (l1 m1 : List Nat) (n2 : Bool) (a2 b2 : Sl) (l2 m2 : List Nat) (hb : h b = some (.cells [.bool n1, a1.val, b1.val, .bool n2, a2.val, b2.val].toArray Ty.api_Rat fz))
    (hv1 : IsVal h a1 b1 l1 m1) (hv2 : IsVal h a2 b2 l2 m2) : Fn0 T F.ref01_anyLarge [.slice (some ⟨b, 0, none⟩) 2 2] h fun v _ => v = .bool (!dec (okR n1 l1 m1 ∧ okR n2 l2 m2)) := by
  refine fn0_of_codeI ok D.ref01_anyLarge rfl ?_
  conv => whnf
  repeat ((first | refine opsI.step ?_ | refine codeI.step ?_); conv => whnf)
  skip
  refine LoopN.of (fun r ρ h' L => ∃ k : Nat, r = 2 - k ∧ h.le h' ∧ rd ρ 7 = .int .i64 k ∧ k ≤ 2 ∧ (0 < k → okR n1 l1 m1) ∧ (1 < k → okR n2 l2 m2)) 2 ⟨0, rfl, Heap.le_refl _, rfl, by omega, fun h => by omega, fun h => by omega⟩ ?_
  conv => whnf
  repeat intro _
  rename_i r h1 L1 hI
  obtain ⟨k, rfl, hle, e0, hk, k1, k2⟩ := hI
  conv at e0 => lhs; whnf
  subst e0
  have hb1 := hle _ _ hb
  match k, hk with
  | 0, _ =>
    conv => whnf
    repeat ((first | refine opsI.step ?_ | refine codeI.step ?_); conv => whnf)
    repeat' first
     | (show Idx _ _ _ _ _; first
       | (refine Idx.of 0 rfl rfl (by decide) ?_; conv => whnf))
     | (show LdN _ _ _ _ _; first
       | (refine LdN.imm [.bool n1, a1.val, b1.val] hb1 rfl (fun i hi => match i, hi with | 0, _ => rfl | 1, _ => rfl | 2, _ => rfl) ?_; conv => whnf)
       | (refine LdN.own 0 rfl rfl ?_; conv => whnf))
     | (show CallN _ _ _ _ _ _; first
       | (refine CallN.fn rfl (Large_ct _ _ _ _ l1 m1 (by (iterate 30 (try first | assumption | refine IsVal.mono ?_ (by assumption))); first | done | assumption)) (fun v h' hl hr => ?_); obtain rfl := hr; conv => whnf))
     | ((first | refine opsI.step ?_ | refine codeI.step ?_); conv => whnf)
     | (intro (_ : Nat); conv => whnf)
     | (show WrapN _ _ _; first
       | (refine WrapN.i64 (by omega) (by omega) ?_; conv => whnf))
     | (show cnd _ _ _; first
       | (refine cnd_lt (fun _ => ?_) (fun _ => ?_) <;> first | (exfalso; omega) | (conv => whnf))
       | (refine cnd_not ?_)
       | (refine cnd_dec (fun _ => ?_) (fun _ => ?_) <;> first | (exfalso; omega) | (conv => whnf)))
     | (show Sto _ _ _ _; first
       | (refine Sto.lit 0 rfl rfl rfl ?_; conv => whnf))
    · exact ⟨rfl, 1, by omega, 1, rfl, (by (iterate 30 (try first | assumption | refine Heap.le_trans ?_ (by assumption))); first | done | assumption), rfl, by omega, fun _ => by assumption, fun h => by omega⟩
    · exact RetN.all (by rw [dec_false (fun hh => absurd hh.1 (by assumption))] <;> rfl)
  | 1, _ =>
    conv => whnf
    repeat ((first | refine opsI.step ?_ | refine codeI.step ?_); conv => whnf)
    repeat' first
     | (show Idx _ _ _ _ _; first
       | (refine Idx.of 1 rfl rfl (by decide) ?_; conv => whnf))
     | (show LdN _ _ _ _ _; first
       | (refine LdN.imm [.bool n2, a2.val, b2.val] hb1 rfl (fun i hi => match i, hi with | 0, _ => rfl | 1, _ => rfl | 2, _ => rfl) ?_; conv => whnf)
       | (refine LdN.own 0 rfl rfl ?_; conv => whnf))
     | (show CallN _ _ _ _ _ _; first
       | (refine CallN.fn rfl (Large_ct _ _ _ _ l2 m2 (by (iterate 30 (try first | assumption | refine IsVal.mono ?_ (by assumption))); first | done | assumption)) (fun v h' hl hr => ?_); obtain rfl := hr; conv => whnf))
     | ((first | refine opsI.step ?_ | refine codeI.step ?_); conv => whnf)
     | (intro (_ : Nat); conv => whnf)
     | (show WrapN _ _ _; first
       | (refine WrapN.i64 (by omega) (by omega) ?_; conv => whnf))
     | (show cnd _ _ _; first
       | (refine cnd_lt (fun _ => ?_) (fun _ => ?_) <;> first | (exfalso; omega) | (conv => whnf))
       | (refine cnd_not ?_)
       | (refine cnd_dec (fun _ => ?_) (fun _ => ?_) <;> first | (exfalso; omega) | (conv => whnf)))
     | (show Sto _ _ _ _; first
       | (refine Sto.lit 0 rfl rfl rfl ?_; conv => whnf))
    · exact ⟨rfl, 0, by omega, 2, rfl, (by (iterate 30 (try first | assumption | refine Heap.le_trans ?_ (by assumption))); first | done | assumption), rfl, by omega, fun _ => k1 (by omega), fun _ => by assumption⟩
    · exact RetN.all (by rw [dec_false (fun hh => absurd hh.2 (by assumption))] <;> rfl)
  | 2, _ =>
    conv => whnf
    repeat ((first | refine opsI.step ?_ | refine codeI.step ?_); conv => whnf)
    repeat' first
     | ((first | refine opsI.step ?_ | refine codeI.step ?_); conv => whnf)
     | (show cnd _ _ _; first
       | (refine cnd_lt (fun _ => ?_) (fun _ => ?_) <;> first | (exfalso; omega) | (conv => whnf)))
    exact RetN.all (by rw [dec_true ⟨k1 (by omega), k2 (by omega)⟩] <;> rfl)

set_option maxRecDepth 20000 in
theorem Int_ct (h : Heap) (n : Int) (h1 : 0 ≤ n) (h2 : n ≤ 9223372036854775807) :
    Fn0 T F.ref01_Int [.int .i64 n] h fun v h' => ∃ s t : Sl, v = .agg #[.bool (sg (n : Rat)), s.val, t.val] ∧ IsQ h' s t (n : Rat) := by
  obtain ⟨m, hm⟩ : ∃ m, m = n.natAbs := ⟨_, rfl⟩
  have e : (n : Rat) = mkQ false m 1 := by
    have := mkQ_self (n : Rat)
    rw [sg_int, nu_int, den_int, decide_eq_false (by omega), ← hm] at this
    exact this.symm
  have hnm : n = m := by omega
  have p1 : ln 65536 m ≤ 4 := (ln_le_iff two_le_b).2 (by omega)
  have p2 := ln_one 65536 two_le_b
  rw [e]
  refine fn0_of_codeI ok D.ref01_Int rfl ?_
  conv => whnf
  repeat ((first | refine opsI.step ?_ | refine codeI.step ?_); conv => whnf)
  repeat' first
   | (show WrapN _ _ _; first
     | (refine WrapN.u64v m (by omega) ?_; conv => whnf))
   | ((first | refine opsI.step ?_ | refine codeI.step ?_); conv => whnf)
   | (intro (_ : Nat); conv => whnf)
   | (show cnd _ _ _; first
     | (refine cnd_lt (fun _ => ?_) (fun _ => ?_) <;> first | (exfalso; omega) | (conv => whnf)))
  refine CallN.fn rfl (NatOf_ct _ m (by omega)) (fun v h' hl hr => ?_)
  obtain ⟨s', rfl, hs'⟩ := hr
  conv => whnf
  repeat ((first | refine opsI.step ?_ | refine codeI.step ?_); conv => whnf)
  refine CallN.fn rfl (NatOf_ct _ 1 (by omega)) (fun v h' hl hr => ?_)
  obtain ⟨t', rfl, ht'⟩ := hr
  conv => whnf
  repeat ((first | refine opsI.step ?_ | refine codeI.step ?_); conv => whnf)
  repeat' first
   | (show CallN _ _ _ _ _ _; first
     | (refine CallN.fn rfl (Make_ct _ _ _ _ m 1 (by (iterate 30 (try first | assumption | refine IsRef.mono ?_ (by assumption))); first | done | assumption) (by assumption) (by omega) (by omega)) (fun v h' hl hr => ?_); obtain ⟨a', b', rfl, hq'⟩ := hr; conv => whnf))
   | ((first | refine opsI.step ?_ | refine codeI.step ?_); conv => whnf)
   | (show LdN _ _ _ _ _; first
     | (refine LdN.own 0 rfl rfl ?_; conv => whnf))
   | (show Sto _ _ _ _; first
     | (refine Sto.lit 0 rfl rfl rfl ?_; conv => whnf))
  exact RetN.all ⟨_, _, rfl, (by assumption)⟩

set_option maxRecDepth 20000 in
theorem Diff_ct (h : Heap) (a b c d : Sl) (q r : Rat) (hq : IsQ h a b q) (hr : IsQ h c d r) (hs : Sr 1073741824 q) (hs' : Sr 1073741824 r) :
    Fn0 T F.ref01_Diff [.agg #[.bool (sg q), a.val, b.val], .agg #[.bool (sg r), c.val, d.val]] h fun v h' => ∃ s t : Sl, v = .agg #[.bool (sg (q - r)), s.val, t.val] ∧ IsQ h' s t (q - r) := by
  have y2 : Sr 1073741824 (-r) := Sr.neg hs'
  have y3 : Sr 1099511627776 r := hs'.mono (by decide)
  have h3 := IsQ.neg hr
  have e : q - r = q + -r := Rat.sub_eq_add_neg q r
  refine fn0_of_codeI ok D.ref01_Diff rfl ?_
  conv => whnf
  repeat ((first | refine opsI.step ?_ | refine codeI.step ?_); conv => whnf)
  repeat' first
   | (show CallN _ _ _ _ _ _; first
     | (refine CallN.quiet rfl (Opp_q _ _ _ _ (by assumption) y3) ?_; conv => whnf)
     | (refine CallN.fn rfl (Sum_ct _ _ _ _ _ _ _ (by assumption) (by assumption) hs y2) (fun v h' hl hr => ?_); obtain ⟨e1, e2, rfl, hq'⟩ := hr; conv => whnf))
   | ((first | refine opsI.step ?_ | refine codeI.step ?_); conv => whnf)
   | (refine ⟨fun _ => HasLe.of_le (Heap.le_refl _), ?_⟩; conv => whnf)
   | (refine ⟨fun _ => HasLe.of_le (by assumption), ?_⟩; conv => whnf)
   | (refine ⟨fun hst => (by cases (show true = false from hst)), ?_⟩; conv => whnf)
   | (intro (_ : Nat); conv => whnf)
   | (show LdN _ _ _ _ _; first
     | (refine LdN.own 0 rfl rfl ?_; conv => whnf)
     | (refine LdN.own 1 rfl rfl ?_; conv => whnf)
     | (refine LdN.own 2 rfl rfl ?_; conv => whnf))
   | (show Sto _ _ _ _; first
     | (refine Sto.lit 0 rfl rfl rfl ?_; conv => whnf))
   | (show DrawN _ _ _ _ _ _; first
     | (refine DrawN.run (by decide +kernel) ?_; conv => whnf))
  exact RetN.all ⟨_, _, by rw [e] <;> rfl, by rw [e]; exact (by assumption)⟩

theorem sr_add {k l : Nat} {q r : Rat} (a : Sr k q) (b : Sr l r) : Sr (k + l + 1) (q + r) := by
  have h := add_le q r
  have p1 := ln_mul two_le_b (nu q) r.den
  have p2 := ln_mul two_le_b (nu r) q.den
  have p3 := ln_mul two_le_b q.den r.den
  have p4 := ln_add two_le_b (nu q * r.den) (nu r * q.den)
  have a1 := a.num
  have a2 := a.den
  have b1 := b.num
  have b2 := b.den
  exact ⟨Nat.le_trans (ln_mono two_le_b h.1) (by omega), Nat.le_trans (ln_mono two_le_b h.2) (by omega)⟩
end Go.Proofs.YteblflmnhegmjaaDoor
