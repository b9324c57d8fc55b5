/- Contracts of the reference's functions on natural numbers (digits to the base 65536), fourth part: the shift to the right, long division. -/
import Derived.Test.YteblflmnhegmjaaDoorR3
import Derived.Test.YteblflmnhegmjaaDoorW6
set_option linter.unusedVariables false
set_option linter.unusedSimpArgs false
namespace Go.Proofs.YteblflmnhegmjaaDoor
open Go Go.Vc Go.Dig

theorem getD_snoc (l : List Nat) (x j : Nat) : (l ++ [x]).getD j 0 = if j < l.length then l.getD j 0 else if j = l.length then x else 0 := by
  simp only [List.getD_eq_getElem?_getD]
  split
  · rw [List.getElem?_append_left (by assumption)]
  · rw [List.getElem?_append_right (by omega)]
    split
    · rename_i h; subst h; simp
    · rw [List.getElem?_eq_none (by simp; omega)]; rfl
set_option maxRecDepth 20000 in
set_option maxHeartbeats 1000000 in
theorem NatShr_ct (h : Heap) (a : Sl) (m n : Nat) (ha : IsRef h a m) (la : ln 65536 m ≤ 17179869184) (hn : n ≤ 549755813888) :
    Fn0 T F.ref01_NatShr [a.val, .int .i64 n] h fun v h' => ∃ s : Sl, v = s.val ∧ IsRef h' s (m / 2 ^ n) := by
  have hal := ha.len
  obtain ⟨r, hr⟩ : ∃ r, r = n % 16 := ⟨_, rfl⟩
  obtain ⟨q, hq⟩ : ∃ q, q = n / 16 := ⟨_, rfl⟩
  have hr15 : r ≤ 15 := by omega
  have hpow : Hq (2 ^ n = 2 ^ r * 65536 ^ q) := ⟨by
    rw [show (65536 : Nat) = 2 ^ 16 from rfl, ← Nat.pow_mul, ← Nat.pow_add]; congr 1; omega⟩
  have hdig : Hq (∀ i, m / 2 ^ r / 65536 ^ (q + i) % 65536 = (m / 65536 ^ (q + i) % 65536 + 65536 * (m / 65536 ^ (q + i + 1) % 65536)) / 2 ^ r % 65536) := ⟨fun i => (shr_digit16 hr15).symm⟩
  have hd : ∀ j, (((dg 65536 m).drop q).getD j 0) = m / 65536 ^ (q + j) % 65536 := fun j => by
    rw [List.getD_eq_getElem?_getD, List.getElem?_drop, ← dg_getD two_le_b, List.getD_eq_getElem?_getD]
  refine fn0_of_codeI ok D.ref01_NatShr rfl ?_
  conv => whnf
  repeat ((first | refine opsI.step ?_ | refine codeI.step ?_); conv => whnf)
  repeat' first
   | (show QuoN _ _ _ _; first
     | (refine QuoN.i64 (by omega) (by omega) (by omega) ?_; conv => whnf))
   | (show CutA _ _ _ _ _ _; first
     | (refine CutA.drop (s := a) ha q (by omega) (by omega) (by unfold ln at *; omega) (fun s' w' => ?_); conv => whnf))
   | ((first | refine opsI.step ?_ | refine codeI.step ?_); conv => whnf)
   | (show cnd _ _ _; first
     | (refine cnd_lt (fun _ => ?_) (fun _ => ?_) <;> first | (exfalso; omega) | (conv => whnf))
     | (refine cnd_le (fun _ => ?_) (fun _ => ?_) <;> first | (exfalso; omega) | (conv => whnf)))
  · have : m < 65536 ^ q := (ln_le_iff two_le_b).1 (by omega)
    have h0 : m / 2 ^ n = 0 := by
      rw [hpow.out]
      refine Nat.div_eq_of_lt (Nat.lt_of_lt_of_le this (Nat.le_mul_of_pos_left _ (Nat.two_pow_pos r)))
    exact RetN.all ⟨⟨none, 0, 0⟩, rfl, by rw [h0]; unfold IsRef; rw [dg_zero]; exact Ws.nil rfl⟩
  obtain ⟨dl, hdl⟩ : ∃ dl, dl = (dg 65536 m).drop q := ⟨_, rfl⟩
  rw [← hdl] at w' hd
  have hwl := w'.len
  have hdll : dl.length = ln 65536 m - q := by rw [hdl]; simp [ln]
  have hdB : ∀ x ∈ dl, x < 65536 := by rw [hdl]; exact drop_lt (dg_lt two_le_b m)
  have hdB2 := fun i => getD_lt (b := 65536) (by decide) hdB i
  repeat' first
   | (show Mk _ _ _; first
     | (refine Mk.of 0 (by omega) (by omega) (by omega) ?_; conv => whnf)
     | (refine Mk.of (ln 65536 m - q) (by omega) (by omega) (by omega) ?_; conv => whnf))
   | (refine ⟨Nat.zero_le _, ?_⟩; conv => whnf)
   | ((first | refine opsI.step ?_ | refine codeI.step ?_); conv => whnf)
   | (intro (_ : Nat); conv => whnf)
  replace hd := Hq.mk hd
  refine LoopN.of (fun d ρ h' L => ∃ (k : Nat) (v : Value) (xs : List Nat), d = ln 65536 m - q - k ∧ h' = h ∧ rd ρ 26 = .int .i64 k ∧ rd ρ 5 = v ∧ GrowS Ty.uint32 1 v k (xs.map (vu .u32)) L ∧ k ≤ ln 65536 m - q ∧ xs.length = k ∧ (∀ x ∈ xs, x < 65536) ∧ Hq (∀ j, j < k → xs.getD j 0 = m / 2 ^ r / 65536 ^ (q + j) % 65536)) (ln 65536 m - q)
    ⟨0, _, [], rfl, rfl, rfl, rfl, GrowS.new 0 rfl, by omega, rfl, by simp, ⟨fun j hj => by omega⟩⟩ ?_
  conv => whnf
  repeat intro _
  rename_i rr h2 L2 hI
  obtain ⟨k, v, xs, rfl, rfl, e0, e1, g, hk, hol, hoB, heq⟩ := hI
  conv at e0 => lhs; whnf
  subst e0
  conv at e1 => lhs; whnf
  subst e1
  have hda := hdB2 k
  have hdb := hdB2 (k + 1)
  have hz : k + 1 < dl.length ∨ dl.getD (k + 1) 0 = 0 := by
    rcases Nat.lt_or_ge (k + 1) dl.length with hh | hh
    · exact .inl hh
    · exact .inr (getD_out hh)
  obtain ⟨p, hp⟩ : ∃ p, p = dl.getD (k + 1) 0 * 65536 := ⟨_, rfl⟩
  obtain ⟨s, hs⟩ : ∃ s, s = dl.getD k 0 + p := ⟨_, rfl⟩
  have hval : Hq (s / 2 ^ r % 65536 = m / 2 ^ r / 65536 ^ (q + k) % 65536) := ⟨by
    rw [hdig.out, hs, hp, hd.out, hd.out, Nat.mul_comm _ 65536, Nat.add_assoc q]⟩
  replace hd := hd.out
  clear hd
  conv => whnf
  repeat ((first | refine opsI.step ?_ | refine codeI.step ?_); conv => whnf)
  repeat' first
   | (show SeqN _ _ _ _ _ _ _; first
     | (refine SeqN.go ?_; conv => whnf))
   | (show Idx _ _ _ _ _; first
     | (refine Idx.ws w' k (by omega) (by omega) (fun ad hv => ?_); conv => whnf)
     | (refine Idx.ws w' (k + 1) (by omega) (by omega) (fun ad hv => ?_); conv => whnf))
   | (show Ld _ _ _ _; first
     | (refine Ld.of (by first | exact hv _ | (rename_i hv; exact hv _)) ?_; conv => whnf))
   | (show WrapN _ _ _; first
     | (refine WrapN.u32v p (by omega) ?_; conv => whnf)
     | (refine WrapN.u32v s (by omega) ?_; conv => whnf)
     | (refine WrapN.i64 (by omega) (by omega) ?_; conv => whnf))
   | ((first | refine opsI.step ?_ | refine codeI.step ?_); conv => whnf)
   | (show cnd _ _ _; first
     | (refine cnd_lt (fun _ => ?_) (fun _ => ?_) <;> first | (exfalso; omega) | (conv => whnf)))
  rotate_right
  · obtain rfl : k = ln 65536 m - q := by omega
    refine CallN.grow g rfl fun h' L' s hle hv w => ?_
    rw [hv]
    refine CallN.fn rfl (trim_ct _ s xs w hoB (by omega)) (fun v h' hl hr => ?_)
    obtain ⟨s', rfl, hs⟩ := hr
    conv => whnf
    repeat ((first | refine opsI.step ?_ | refine codeI.step ?_); conv => whnf)
    refine RetN.all ⟨s', rfl, ?_⟩
    have e := evl_digits (b := 65536) two_le_b (N := m / 2 ^ r) (l := xs) (s := q) (fun i hi => heq.out i (by omega))
    have e2 : m / 2 ^ r / 65536 ^ q = m / 2 ^ n := by rw [Nat.div_div_eq_div_mul, hpow.out]
    rw [e2, Nat.mod_eq_of_lt] at e
    · rwa [e] at hs
    · rw [hol, hpow.out, Nat.mul_comm, ← Nat.div_div_eq_div_mul]
      refine Nat.lt_of_le_of_lt (Nat.div_le_self _ _) ?_
      rw [Nat.div_lt_iff_lt_mul (Nat.pow_pos (by decide)), ← Nat.pow_add]
      exact Nat.lt_of_lt_of_le (lt_pow_ln two_le_b m) (Nat.pow_le_pow_right (by decide) (by omega))
  all_goals
    repeat' first
     | (show RemN _ _ _; first
       | (refine RemN.nn (by omega) (by omega) ?_; conv => whnf))
     | (show ShrN _ _ _ _; first
       | (refine ShrN.sym (x := s) (r := r) (by omega) (by omega) (by show r ≤ 32; omega) (fun zz hzz hzz' => ?_); conv => whnf))
     | (show App _ _ _ _ _ _ _ _ _; first
       | (refine App.push rfl g (zz % 65536) (by omega) (by omega) (by decide) (fun v' L' g' => ?_); conv => whnf))
     | ((first | refine opsI.step ?_ | refine codeI.step ?_); conv => whnf)
     | (intro (_ : Nat); conv => whnf)
     | (show WrapN _ _ _; first
       | (refine WrapN.i64 (by omega) (by omega) ?_; conv => whnf)
       | (refine WrapN.u64 (by omega) (by omega) ?_; conv => whnf))
    refine ⟨rfl, ln 65536 m - q - (k + 1), by omega, k + 1, v', _, rfl, rfl, vi (by omega), rfl, g', by omega, by simp; omega, mem_snoc hoB (Nat.mod_lt _ (by decide)), ⟨fun j hj => ?_⟩⟩
    rw [getD_snoc]
    split
    · exact heq.out j (by omega)
    · obtain rfl : j = k := by omega
      rw [if_pos (by omega), hzz.out]; exact hval.out

set_option maxRecDepth 20000 in
theorem less_ct (h : Heap) (u v : Sl) (l : List Nat) (Dv g : Nat) (hu : Ws .u32 h u l) (hlB : ∀ x ∈ l, x < 65536) (hm : l.length ≤ 17179869184) (hv : IsRef h v Dv) (lD : ln 65536 Dv ≤ 8589934592) (hg : g < 18446744073709551616) :
    Fn0 T F.ref01_less [u.val, v.val, .int .u64 g] h fun v _ => v = .bool (dec (evl 65536 l < Dv * g)) := by
  have lg : ln 65536 g ≤ 4 := (ln_le_iff two_le_b).2 (by omega)
  have p1 := ln_mul two_le_b Dv g
  have p2 := (trim_take hlB).1
  have c1 := fun (hh : evl 65536 l < Dv * g) => cmp_lt0 hh
  have c2 := fun (hh : Dv * g ≤ evl 65536 l) => cmp_ge0 hh
  refine fn0_of_codeI ok D.ref01_less rfl ?_
  conv => whnf
  repeat ((first | refine opsI.step ?_ | refine codeI.step ?_); conv => whnf)
  repeat' first
   | (show CallN _ _ _ _ _ _; first
     | (refine CallN.fn rfl (NatOf_ct _ g hg) (fun v h' hl hr => ?_); obtain ⟨s', rfl, hs'⟩ := hr; conv => whnf)
     | (refine CallN.fn rfl (NatMul_ct _ _ _ Dv g (by (iterate 30 (try first | assumption | refine IsRef.mono ?_ (by assumption))); first | done | assumption) (by assumption) (by omega) (by omega)) (fun v h' hl hr => ?_); obtain ⟨t', rfl, ht'⟩ := hr; conv => whnf)
     | (refine CallN.fn rfl (trim_ct _ _ l (by (iterate 30 (try first | assumption | refine Ws.mono ?_ (by assumption))); first | done | assumption) hlB (by omega)) (fun v h' hl hr => ?_); obtain ⟨z', rfl, hz'⟩ := hr; conv => whnf)
     | (refine CallN.quiet rfl (NatCmp_ct _ _ _ _ _ (by assumption) (by (iterate 30 (try first | assumption | refine Ws.mono ?_ (by assumption))); first | done | assumption) (by omega) (by omega)) ?_; conv => whnf))
   | ((first | refine opsI.step ?_ | refine codeI.step ?_); conv => whnf)
  refine RetN.all ?_
  by_cases hh : evl 65536 l < Dv * g
  · rw [dec_true hh, c1 hh] <;> rw [lt_true' (by decide)]
  · rw [dec_false hh, lt_false' (c2 (by omega)).1]
end Go.Proofs.YteblflmnhegmjaaDoor
