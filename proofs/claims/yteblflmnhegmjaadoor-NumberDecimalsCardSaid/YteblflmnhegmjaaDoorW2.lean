/- Contracts of package word's functions on natural numbers, second part: comparison, sum, difference, product. -/
import Derived.Test.YteblflmnhegmjaaDoorW1
set_option linter.unusedVariables false
set_option linter.unusedSimpArgs false
namespace Go.Proofs.YteblflmnhegmjaaDoor
open Go Go.Vc Go.Dig

theorem Cmp_ct (h : Heap) (a b : Sl) (m n : Nat) (ha : IsNat h a m) (hb : IsNat h b n) (la : ln 4294967296 m ≤ 1099511627776) (lb : ln 4294967296 n ≤ 1099511627776) :
    Fn0 T F.word_Nat_Cmp [a.val, b.val] h fun v h' => h' = h ∧ v = .int .i64 (cmpI m n) := by
  have hal := ha.len
  have hbl := hb.len
  refine fn0_of_codeI ok D.word_Nat_Cmp rfl ?_
  conv => whnf
  repeat ((first | refine opsI.step ?_ | refine codeI.step ?_); conv => whnf)
  have n1 : ln 4294967296 m < ln 4294967296 n → cmpI m n = -1 := fun hx => by have := lt_of_ln two_le_B hx; simp [cmpI, this]
  have n2 : ln 4294967296 n < ln 4294967296 m → cmpI m n = 1 := fun hx => by have := lt_of_ln two_le_B hx; simp [cmpI, show ¬ m < n by omega, show m ≠ n by omega]
  repeat' first
   | ((first | refine opsI.step ?_ | refine codeI.step ?_); conv => whnf)
   | (show WrapN _ _ _; first
     | (refine WrapN.i64 (by omega) (by omega) ?_; conv => whnf))
   | (show cnd _ _ _; first
     | (refine cnd_lt (fun _ => ?_) (fun _ => ?_) <;> first | (exfalso; omega) | (conv => whnf))
     | (refine cnd_eq (fun _ => ?_) (fun _ => ?_) <;> first | (exfalso; omega) | (conv => whnf))
     | (refine cnd_not ?_))
  · refine LoopN.of (fun k ρ h' L => h' = h ∧ L = [] ∧ rd ρ 5 = .int .i64 ((k : Int) - 1) ∧ k ≤ ln 4294967296 m ∧ ∀ j, k ≤ j → (dg 4294967296 m).getD j 0 = (dg 4294967296 n).getD j 0) (ln 4294967296 m) ⟨rfl, rfl, vi (by omega), Nat.le_refl _, fun j hj => by rw [getD_out hj, getD_out (by unfold ln at *; omega)]⟩ ?_
    conv => whnf
    repeat intro _
    rename_i k h1 L1 hI
    obtain ⟨rfl, rfl, e0, hk, hz⟩ := hI
    conv at e0 => lhs; whnf
    subst e0
    have hda := dg_getD_lt two_le_B m (k - 1)
    have hdb := dg_getD_lt two_le_B n (k - 1)
    conv => whnf
    repeat ((first | refine opsI.step ?_ | refine codeI.step ?_); conv => whnf)
    repeat' first
     | (show Idx _ _ _ _ _; first
       | (refine Idx.ws ha (k - 1) (by omega) (by unfold ln at *; omega) (fun ad hv => ?_); conv => whnf)
       | (refine Idx.ws hb (k - 1) (by omega) (by unfold ln at *; omega) (fun ad hv => ?_); conv => whnf))
     | (show Ld _ _ _ _; first
       | (refine Ld.of (by first | exact hv _ | (rename_i hv; exact hv _)) ?_; conv => whnf))
     | ((first | refine opsI.step ?_ | refine codeI.step ?_); conv => whnf)
     | (show WrapN _ _ _; first
       | (refine WrapN.i64 (by omega) (by omega) ?_; conv => whnf))
     | (show cnd _ _ _; first
       | (refine cnd_lt (fun _ => ?_) (fun _ => ?_) <;> first | (exfalso; omega) | (conv => whnf))
       | (refine cnd_le (fun _ => ?_) (fun _ => ?_) <;> first | (exfalso; omega) | (conv => whnf)))
     | (show DrawN _ _ _ _ _ _; first
       | (refine DrawN.run (by decide +kernel) ?_; conv => whnf))
    · exact RetN.all ⟨rfl, vi (by have := cmp_at two_le_B (l := dg 4294967296 m) (m := dg 4294967296 n) (k := k - 1) (by unfold ln at *; omega) (dg_lt two_le_B m) (by unfold ln at *; omega) (fun j hj => hz j (by omega)) (by omega); rw [evl_dg two_le_B, evl_dg two_le_B] at this; simp [cmpI, this])⟩
    · exact RetN.all ⟨rfl, vi (by have := cmp_at two_le_B (l := dg 4294967296 n) (m := dg 4294967296 m) (k := k - 1) (by unfold ln at *; omega) (dg_lt two_le_B n) (by unfold ln at *; omega) (fun j hj => (hz j (by omega)).symm) (by omega); rw [evl_dg two_le_B, evl_dg two_le_B] at this; simp [cmpI, show ¬ m < n by omega, show m ≠ n by omega])⟩
    · refine ⟨rfl, k - 1, by omega, rfl, rfl, vi (by omega), by omega, fun j hj => ?_⟩
      by_cases hjk : k ≤ j
      · exact hz j hjk
      · obtain rfl : j = k - 1 := by omega
        omega
    · exact RetN.all ⟨rfl, vi (by have := dg_inj two_le_B (eq_of_getD (l := dg 4294967296 m) (m := dg 4294967296 n) (by unfold ln at *; omega) (fun j => hz j (by omega))); subst this; simp [cmpI])⟩
  · exact RetN.all ⟨rfl, vi (n1 (by omega)).symm⟩
  · exact RetN.all ⟨rfl, vi (n2 (by omega)).symm⟩

theorem ln_or (k n : Nat) : k < ln 4294967296 n ∨ (dg 4294967296 n).getD k 0 = 0 := by
  rcases Nat.lt_or_ge k (ln 4294967296 n) with h | h
  · exact .inl h
  · exact .inr (getD_out h)
theorem Add_ct (h : Heap) (a b : Sl) (m n : Nat) (ha : IsNat h a m) (hb : IsNat h b n) (la : ln 4294967296 m ≤ 1099511627776) (lb : ln 4294967296 n ≤ 1099511627776) :
    Fn0 T F.word_Nat_Add [a.val, b.val] h fun v h' => ∃ s : Sl, v = s.val ∧ IsNat h' s (m + n) := by
  have hal := ha.len
  have hbl := hb.len
  refine fn0_of_codeI ok D.word_Nat_Add rfl ?_
  conv => whnf
  repeat ((first | refine opsI.step ?_ | refine codeI.step ?_); conv => whnf)
  refine SeqN.cut (fun ρ h' L => L = [] ∧ h' = h ∧ ∃ (a b : Sl) (m' n' : Nat), rd ρ 0 = a.val ∧ rd ρ 1 = b.val ∧ IsNat h a m' ∧ IsNat h b n' ∧ m' + n' = m + n ∧ ln 4294967296 n' ≤ ln 4294967296 m' ∧ ln 4294967296 m' ≤ 1099511627776) ?_ ?_
  · conv => whnf
    repeat ((first | refine opsI.step ?_ | refine codeI.step ?_); conv => whnf)
    repeat' first
     | ((first | refine opsI.step ?_ | refine codeI.step ?_); conv => whnf)
     | (show cnd _ _ _; first
       | (refine cnd_lt (fun _ => ?_) (fun _ => ?_) <;> first | (exfalso; omega) | (conv => whnf)))
    · exact ⟨rfl, rfl, rfl, b, a, n, m, rfl, rfl, hb, ha, by omega, by omega, by omega⟩
    · exact ⟨rfl, rfl, rfl, a, b, m, n, rfl, rfl, ha, hb, by omega, by omega, by omega⟩
  clear ha hb hal hbl
  conv => whnf
  repeat intro _
  rename_i h1 L1 hJ
  obtain ⟨rfl, rfl, a, b, m', n', e0, e1, ha, hb, hmn, hln, hlm⟩ := hJ
  conv at e0 => lhs; whnf
  subst e0
  conv at e1 => lhs; whnf
  subst e1
  have hal := ha.len
  have hbl := hb.len
  conv => whnf
  repeat ((first | refine opsI.step ?_ | refine codeI.step ?_); conv => whnf)
  repeat' first
   | (show Mk _ _ _; first
     | (refine Mk.of (ln 4294967296 m' + 1) (by omega) (by omega) (by omega) ?_; conv => whnf))
   | (refine ⟨Nat.le_refl _, ?_⟩; conv => whnf)
   | ((first | refine opsI.step ?_ | refine codeI.step ?_); conv => whnf)
   | (intro (_ : Nat); conv => whnf)
   | (show WrapN _ _ _; first
     | (refine WrapN.i64 (by omega) (by omega) ?_; conv => whnf))
  rename_i bo
  refine LoopN.of (fun r ρ h' L => ∃ (k : Nat) (o : List Nat) (c : Nat), r = ln 4294967296 m' - k ∧ h' = h1 ∧ L = [(bo, Row .u32 Ty.uint32 o)] ∧ rd ρ 23 = .int .i64 k ∧ rd ρ 6 = .int .u64 c ∧ k ≤ ln 4294967296 m' ∧ o.length = ln 4294967296 m' + 1 ∧ (∀ x ∈ o, x < 4294967296) ∧ c ≤ 1 ∧
      evl 4294967296 (o.take k) + c * 4294967296 ^ k = evl 4294967296 ((dg 4294967296 m').take k) + evl 4294967296 ((dg 4294967296 n').take k)) (ln 4294967296 m')
    ⟨0, List.replicate (ln 4294967296 m' + 1) 0, 0, rfl, rfl, by rw [row_new], rfl, rfl, by omega, by simp, by simp, by omega, by simp [evl_nil]⟩ ?_
  conv => whnf
  repeat intro _
  rename_i r h2 L2 hI
  obtain ⟨k, o, c, rfl, rfl, rfl, e0, e1, hk, hol, hoB, hc, heq⟩ := hI
  conv at e0 => lhs; whnf
  subst e0
  conv at e1 => lhs; whnf
  subst e1
  have hda := dg_getD_lt two_le_B m' k
  have hdb := dg_getD_lt two_le_B n' k
  have hz : k < ln 4294967296 n' ∨ (dg 4294967296 n').getD k 0 = 0 := ln_or k n'
  conv => whnf
  repeat ((first | refine opsI.step ?_ | refine codeI.step ?_); conv => whnf)
  repeat' first
   | (show SeqN _ _ _ _ _ _ _; first
     | (refine SeqN.go ?_; conv => whnf))
   | (show Idx _ _ _ _ _; first
     | (refine Idx.ws ha k (by omega) (by unfold ln at *; omega) (fun ad hv => ?_); conv => whnf)
     | (refine Idx.ws hb k (by omega) (by unfold ln at *; omega) (fun ad hv => ?_); conv => whnf)
     | (refine Idx.own k (by omega) (by omega) ?_; conv => whnf))
   | (show Ld _ _ _ _; first
     | (refine Ld.of (by first | exact hv _ | (rename_i hv; exact hv _)) ?_; conv => whnf))
   | (show WrapN _ _ _; first
     | (refine WrapN.u32m ?_; conv => whnf)
     | (refine WrapN.i64 (by omega) (by omega) ?_; conv => whnf)
     | (refine WrapN.u64 (by omega) (by omega) ?_; conv => whnf))
   | (show ShrN _ _ _ _; first
     | (refine ShrN.of 32 (by decide) (by omega) ?_; conv => whnf))
   | (show Sto _ _ _ _; first
     | (refine Sto.ws 0 rfl (((dg 4294967296 m').getD k 0 + c + (dg 4294967296 n').getD k 0) % 4294967296) (by omega) (by omega) ?_; conv => whnf))
   | ((first | refine opsI.step ?_ | refine codeI.step ?_); conv => whnf)
   | (show cnd _ _ _; first
     | (refine cnd_lt (fun _ => ?_) (fun _ => ?_) <;> first | (exfalso; omega) | (conv => whnf)))
  · exact ⟨rfl, ln 4294967296 m' - (k + 1), by omega, k + 1, _, ((dg 4294967296 m').getD k 0 + c + (dg 4294967296 n').getD k 0) / 4294967296, rfl, rfl, rfl, vi (by omega), vi (by omega), by omega, by simp [hol], mem_set_lt hoB (Nat.mod_lt _ (by omega)), by omega, add_step (by omega) rfl heq⟩
  · exact ⟨rfl, ln 4294967296 m' - (k + 1), by omega, k + 1, _, ((dg 4294967296 m').getD k 0 + c + (dg 4294967296 n').getD k 0) / 4294967296, rfl, rfl, rfl, vi (by omega), vi (by omega), by omega, by simp [hol], mem_set_lt hoB (Nat.mod_lt _ (by omega)), by omega, add_step (by omega) rfl heq⟩
  · obtain rfl : k = ln 4294967296 m' := by omega
    refine Sto.ws 0 rfl c (by omega) (by omega) ?_
    conv => whnf
    repeat ((first | refine opsI.step ?_ | refine codeI.step ?_); conv => whnf)
    refine CallN.keep 0 rfl rfl fun hle => ?_
    refine CallN.fn rfl (Of_ct _ ⟨some ⟨bo, 0, none⟩, ln 4294967296 m' + 1, ln 4294967296 m' + 1⟩ (o.set (ln 4294967296 m') c) (Ws.row (by simp [hol])) (mem_set_lt hoB (by omega)) (by simp; omega)) (fun v h' hl hr => ?_)
    obtain ⟨s', rfl, hs⟩ := hr
    conv => whnf
    repeat ((first | refine opsI.step ?_ | refine codeI.step ?_); conv => whnf)
    refine RetN.all ⟨s', rfl, ?_⟩
    have e := evl_take_set (b := 4294967296) (l := o) (k := ln 4294967296 m') c (by omega)
    rw [evl_take_all (by simp; omega)] at e
    rw [evl_all two_le_B (Nat.le_refl _), evl_all two_le_B hln] at heq
    rw [Nat.mul_comm] at heq
    rwa [e, heq, hmn] at hs

theorem Sub_ct (h : Heap) (a b : Sl) (m n : Nat) (ha : IsNat h a m) (hb : IsNat h b n) (la : ln 4294967296 m ≤ 1099511627776) (hnm : n ≤ m) :
    Fn0 T F.word_Nat_Sub [a.val, b.val] h fun v h' => ∃ s : Sl, v = s.val ∧ IsNat h' s (m - n) := by
  have hal := ha.len
  have hbl := hb.len
  have hln := ln_mono two_le_B hnm
  refine fn0_of_codeI ok D.word_Nat_Sub rfl ?_
  conv => whnf
  repeat ((first | refine opsI.step ?_ | refine codeI.step ?_); conv => whnf)
  repeat' first
   | (show Mk _ _ _; first
     | (refine Mk.of (ln 4294967296 m) (by omega) (by omega) (by omega) ?_; conv => whnf))
   | (refine ⟨Nat.le_refl _, ?_⟩; conv => whnf)
   | ((first | refine opsI.step ?_ | refine codeI.step ?_); conv => whnf)
   | (intro (_ : Nat); conv => whnf)
  rename_i bo
  refine LoopN.of (fun r ρ h' L => ∃ (k : Nat) (o : List Nat) (c : Nat), r = ln 4294967296 m - k ∧ h' = h ∧ L = [(bo, Row .u32 Ty.uint32 o)] ∧ rd ρ 15 = .int .i64 k ∧ rd ρ 6 = .int .u64 c ∧ k ≤ ln 4294967296 m ∧ o.length = ln 4294967296 m ∧ (∀ x ∈ o, x < 4294967296) ∧ c ≤ 1 ∧
      evl 4294967296 (o.take k) + evl 4294967296 ((dg 4294967296 n).take k) = evl 4294967296 ((dg 4294967296 m).take k) + c * 4294967296 ^ k) (ln 4294967296 m)
    ⟨0, List.replicate (ln 4294967296 m) 0, 0, rfl, rfl, by rw [row_new], rfl, rfl, by omega, by simp, by simp, by omega, by simp [evl_nil]⟩ ?_
  conv => whnf
  repeat intro _
  rename_i r h2 L2 hI
  obtain ⟨k, o, c, rfl, rfl, rfl, e0, e1, hk, hol, hoB, hc, heq⟩ := hI
  conv at e0 => lhs; whnf
  subst e0
  conv at e1 => lhs; whnf
  subst e1
  have hda := dg_getD_lt two_le_B m k
  have hdb := dg_getD_lt two_le_B n k
  have hz : k < ln 4294967296 n ∨ (dg 4294967296 n).getD k 0 = 0 := ln_or k n
  conv => whnf
  repeat ((first | refine opsI.step ?_ | refine codeI.step ?_); conv => whnf)
  repeat' first
   | (show SeqN _ _ _ _ _ _ _; first
     | (refine SeqN.go ?_; conv => whnf))
   | (show Idx _ _ _ _ _; first
     | (refine Idx.ws ha k (by omega) (by unfold ln at *; omega) (fun ad hv => ?_); conv => whnf)
     | (refine Idx.ws hb k (by omega) (by unfold ln at *; omega) (fun ad hv => ?_); conv => whnf)
     | (refine Idx.own k (by omega) (by omega) ?_; conv => whnf))
   | (show Ld _ _ _ _; first
     | (refine Ld.of (by first | exact hv _ | (rename_i hv; exact hv _)) ?_; conv => whnf))
   | (show WrapN _ _ _; first
     | (refine WrapN.u32m ?_; conv => whnf)
     | (refine WrapN.u64 (by omega) (by omega) ?_; conv => whnf)
     | (refine WrapN.u64m ?_; conv => whnf)
     | (refine WrapN.i64 (by omega) (by omega) ?_; conv => whnf))
   | (show ShrN _ _ _ _; first
     | (refine ShrN.of 63 (by decide) (by omega) ?_; conv => whnf))
   | (show Sto _ _ _ _; first
     | (refine Sto.ws 0 rfl (((dg 4294967296 m).getD k 0 + 2 * 4294967296 - c - (dg 4294967296 n).getD k 0) % 4294967296) (by omega) (by omega) ?_; conv => whnf))
   | ((first | refine opsI.step ?_ | refine codeI.step ?_); conv => whnf)
   | (show cnd _ _ _; first
     | (refine cnd_lt (fun _ => ?_) (fun _ => ?_) <;> first | (exfalso; omega) | (conv => whnf)))
  · refine ⟨rfl, ln 4294967296 m - (k + 1), by omega, k + 1, _, (if (dg 4294967296 m).getD k 0 < c + (dg 4294967296 n).getD k 0 then 1 else 0), rfl, rfl, rfl, vi (by omega), vi (by split <;> omega), by omega, by simp [hol], mem_set_lt hoB (Nat.mod_lt _ (by omega)), by split <;> omega, sub_step (c := c) (by omega) (by split <;> omega) heq⟩
  · refine ⟨rfl, ln 4294967296 m - (k + 1), by omega, k + 1, _, (if (dg 4294967296 m).getD k 0 < c + (dg 4294967296 n).getD k 0 then 1 else 0), rfl, rfl, rfl, vi (by omega), vi (by split <;> omega), by omega, by simp [hol], mem_set_lt hoB (Nat.mod_lt _ (by omega)), by split <;> omega, sub_step (c := c) (by omega) (by split <;> omega) heq⟩
  · obtain rfl : k = ln 4294967296 m := by omega
    refine CallN.keep 0 rfl rfl fun hle => ?_
    refine CallN.fn rfl (Of_ct _ ⟨some ⟨bo, 0, none⟩, ln 4294967296 m, ln 4294967296 m⟩ o (Ws.row (by simp [hol])) hoB (by omega)) (fun v h' hl hr => ?_)
    obtain ⟨s', rfl, hs⟩ := hr
    conv => whnf
    repeat ((first | refine opsI.step ?_ | refine codeI.step ?_); conv => whnf)
    refine RetN.all ⟨s', rfl, ?_⟩
    rw [evl_all two_le_B (Nat.le_refl _), evl_all two_le_B hln, evl_take_all (by omega)] at heq
    have hlt := evl_lt two_le_B hoB
    rw [hol] at hlt
    have : evl 4294967296 o = m - n := by
      match c, hc with
      | 0, _ => omega
      | 1, _ => omega
    rwa [this] at hs

set_option maxRecDepth 20000 in
set_option maxHeartbeats 2000000 in
theorem Mul_ct (h : Heap) (a b : Sl) (m n : Nat) (ha : IsNat h a m) (hb : IsNat h b n) (la : ln 4294967296 m ≤ 17179869184) (lb : ln 4294967296 n ≤ 17179869184) :
    Fn0 T F.word_Nat_Mul [a.val, b.val] h fun v h' => ∃ s : Sl, v = s.val ∧ IsNat h' s (m * n) := by
  have hal := ha.len
  have hbl := hb.len
  have hma := ln_eq_zero two_le_B (n := m)
  have hmb := ln_eq_zero two_le_B (n := n)
  have nil : m * n = 0 → ∃ s : Sl, Value.slice none 0 0 = s.val ∧ IsNat h s (m * n) := fun hx => ⟨⟨none, 0, 0⟩, rfl, by rw [hx]; unfold IsNat; rw [dg_zero]; exact Ws.nil rfl⟩
  refine fn0_of_codeI ok D.word_Nat_Mul rfl ?_
  conv => whnf
  repeat ((first | refine opsI.step ?_ | refine codeI.step ?_); conv => whnf)
  repeat' first
   | (show Mk _ _ _; first
     | (refine Mk.of (ln 4294967296 m + ln 4294967296 n) (by omega) (by omega) (by omega) ?_; conv => whnf))
   | (refine ⟨Nat.le_refl _, ?_⟩; conv => whnf)
   | ((first | refine opsI.step ?_ | refine codeI.step ?_); conv => whnf)
   | (intro (_ : Nat); conv => whnf)
   | (show WrapN _ _ _; first
     | (refine WrapN.i64 (by omega) (by omega) ?_; conv => whnf))
   | (show cnd _ _ _; first
     | (refine cnd_eq (fun _ => ?_) (fun _ => ?_) <;> first | (exfalso; omega) | (conv => whnf)))
  · exact RetN.all (nil (by rw [hma.1 (by omega)]; simp))
  · exact RetN.all (nil (by rw [hmb.1 (by omega)]; simp))
  rename_i h1 h2 bo
  clear hma hmb nil h1 h2
  refine LoopN.of (fun r ρ h' L => ∃ (k : Nat) (o : List Nat), r = ln 4294967296 m - k ∧ h' = h ∧ L = [(bo, Row .u32 Ty.uint32 o)] ∧ rd ρ 28 = .int .i64 k ∧ k ≤ ln 4294967296 m ∧ o.length = ln 4294967296 m + ln 4294967296 n ∧ (∀ x ∈ o, x < 4294967296) ∧ (∀ j, k + ln 4294967296 n ≤ j → o.getD j 0 = 0) ∧
      Hq (evl 4294967296 o = evl 4294967296 ((dg 4294967296 m).take k) * n)) (ln 4294967296 m)
    ⟨0, List.replicate (ln 4294967296 m + ln 4294967296 n) 0, rfl, rfl, by rw [row_new], rfl, by omega, by simp, by simp, fun j _ => getD_zeros _ _, ⟨by rw [evl_zeros _ (by simp)]; simp [evl_nil]⟩⟩ ?_
  conv => whnf
  repeat intro _
  rename_i r h2 L2 hI
  obtain ⟨k, o, rfl, rfl, rfl, e0, hk, hol, hoB, hoz, heq⟩ := hI
  conv at e0 => lhs; whnf
  subst e0
  have hda := dg_getD_lt two_le_B m k
  conv => whnf
  repeat ((first | refine opsI.step ?_ | refine codeI.step ?_); conv => whnf)
  repeat' first
   | (show Idx _ _ _ _ _; first
     | (refine Idx.ws ha k (by omega) (by unfold ln at *; omega) (fun ad hv => ?_); conv => whnf))
   | (show Ld _ _ _ _; first
     | (refine Ld.of (by first | exact hv _ | (rename_i hv; exact hv _)) ?_; conv => whnf))
   | ((first | refine opsI.step ?_ | refine codeI.step ?_); conv => whnf)
   | (show cnd _ _ _; first
     | (refine cnd_lt (fun _ => ?_) (fun _ => ?_) <;> first | (exfalso; omega) | (conv => whnf)))
  · refine LoopN.of (fun r ρ h' L => ∃ (j : Nat) (o : List Nat) (c : Nat), r = ln 4294967296 n - j ∧ h' = h2 ∧ L = [(bo, Row .u32 Ty.uint32 o)] ∧ rd ρ 35 = .int .i64 j ∧ rd ρ 8 = .int .u64 c ∧ j ≤ ln 4294967296 n ∧ o.length = ln 4294967296 m + ln 4294967296 n ∧ (∀ x ∈ o, x < 4294967296) ∧ (∀ i, k + ln 4294967296 n ≤ i → o.getD i 0 = 0) ∧ c < 4294967296 ∧
        Hq (evl 4294967296 o + c * 4294967296 ^ (k + j) = evl 4294967296 ((dg 4294967296 m).take k) * n + 4294967296 ^ k * ((dg 4294967296 m).getD k 0 * evl 4294967296 ((dg 4294967296 n).take j)))) (ln 4294967296 n)
      ⟨0, o, 0, rfl, rfl, rfl, rfl, rfl, by omega, hol, hoB, hoz, by omega, ⟨by simp [evl_nil, heq.out]⟩⟩ ?_
    conv => whnf
    repeat intro _
    rename_i r h3 L3 hI
    obtain ⟨j, o, c, rfl, rfl, rfl, e0, e1, hj, hol, hoB, hoz, hc, heq⟩ := hI
    conv at e0 => lhs; whnf
    subst e0
    conv at e1 => lhs; whnf
    subst e1
    have hdb := dg_getD_lt two_le_B n j
    have hdo := getD_lt (b := 4294967296) (by omega) hoB (k + j)
    conv => whnf
    repeat ((first | refine opsI.step ?_ | refine codeI.step ?_); conv => whnf)
    repeat' first
     | (show Idx _ _ _ _ _; first
       | (refine Idx.ws hb j (by omega) (by unfold ln at *; omega) (fun ad hv => ?_); conv => whnf)
       | (refine Idx.own (k + j) (by omega) (by omega) ?_; conv => whnf))
     | (show Ld _ _ _ _; first
       | (refine Ld.of (by first | exact hv _ | (rename_i hv; exact hv _)) ?_; conv => whnf)
       | (refine Ld.ws 0 rfl (by omega) ?_; conv => whnf))
     | (show WrapN _ _ _; first
       | (refine WrapN.u32m ?_; conv => whnf)
       | (refine WrapN.mul32 hda hdb (fun p hp hp' => ?_); conv => whnf)
       | (refine WrapN.i64 (by omega) (by omega) ?_; conv => whnf)
       | (refine WrapN.u64 (by omega) (by omega) ?_; conv => whnf))
     | (show ShrN _ _ _ _; first
       | (refine ShrN.of 32 (by decide) (by omega) ?_; conv => whnf))
     | (show Sto _ _ _ _; first
       | (rename_i p hp hp'; refine Sto.ws 0 rfl ((p + o.getD (k + j) 0 + c) % 4294967296) (by omega) (by omega) ?_; conv => whnf))
     | ((first | refine opsI.step ?_ | refine codeI.step ?_); conv => whnf)
     | (show cnd _ _ _; first
       | (refine cnd_lt (fun _ => ?_) (fun _ => ?_) <;> first | (exfalso; omega) | (conv => whnf)))
    · rename_i p hp hp'
      refine ⟨rfl, ln 4294967296 n - (j + 1), by omega, j + 1, _, (p + o.getD (k + j) 0 + c) / 4294967296, rfl, rfl, rfl, vi (by omega), vi (by omega), by omega, by simp [hol], mem_set_lt hoB (Nat.mod_lt _ (by omega)), fun i hi => by rw [getD_set_other _ (by omega)]; exact hoz i hi, by omega, ⟨?_⟩⟩
      have := mul_step (b := 4294967296) (p := k + j) (o := o) (s := p + o.getD (k + j) 0 + c) (x := (dg 4294967296 m).getD k 0) (y := (dg 4294967296 n).getD j 0) (by omega) (by rw [hp.out]) heq.out
      rw [show k + (j + 1) = k + j + 1 by omega, this, evl_take_next, Nat.mul_add, Nat.mul_add, Nat.pow_add]
      congr 2
      rw [Nat.mul_assoc, Nat.mul_left_comm ((dg 4294967296 m).getD k 0)]
    · obtain rfl : j = ln 4294967296 n := by omega
      refine Sto.ws 0 rfl c (by omega) (by omega) ?_
      conv => whnf
      repeat ((first | refine opsI.step ?_ | refine codeI.step ?_); conv => whnf)
      repeat' first
       | ((first | refine opsI.step ?_ | refine codeI.step ?_); conv => whnf)
       | (show WrapN _ _ _; first
         | (refine WrapN.i64 (by omega) (by omega) ?_; conv => whnf))
      refine ⟨rfl, ln 4294967296 m - (k + 1), by omega, k + 1, _, rfl, rfl, rfl, vi (by omega), by omega, by simp [hol], mem_set_lt hoB (by omega), fun i hi => by rw [getD_set_other _ (by omega)]; exact hoz i (by omega), ⟨?_⟩⟩
      have e := evl_set (b := 4294967296) (l := o) (k := k + ln 4294967296 n) c (by omega)
      rw [hoz _ (Nat.le_refl _), Nat.mul_zero, Nat.add_zero, Nat.mul_comm _ c, heq.out, evl_all two_le_B (Nat.le_refl _)] at e
      rw [e, evl_take_next, Nat.add_mul, Nat.mul_assoc]
  · obtain rfl : k = ln 4294967296 m := by omega
    refine CallN.keep 0 rfl rfl fun hle => ?_
    refine CallN.fn rfl (Of_ct _ ⟨some ⟨bo, 0, none⟩, ln 4294967296 m + ln 4294967296 n, ln 4294967296 m + ln 4294967296 n⟩ o (Ws.row (by simp [hol])) hoB (by omega)) (fun v h' hl hr => ?_)
    obtain ⟨s', rfl, hs⟩ := hr
    conv => whnf
    repeat ((first | refine opsI.step ?_ | refine codeI.step ?_); conv => whnf)
    refine RetN.all ⟨s', rfl, ?_⟩
    have heq := heq.out
    rw [evl_all two_le_B (Nat.le_refl _)] at heq
    rwa [heq] at hs
end Go.Proofs.YteblflmnhegmjaaDoor
