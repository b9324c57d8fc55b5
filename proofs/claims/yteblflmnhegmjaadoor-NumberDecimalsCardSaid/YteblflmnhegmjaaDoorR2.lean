/- Contracts of the reference's functions on natural numbers (digits to the base 65536), second part: words, bits, powers, shifts, division by a digit. -/
import Derived.Test.YteblflmnhegmjaaDoorR1
import Derived.Test.YteblflmnhegmjaaDoorW4
set_option linter.unusedVariables false
set_option linter.unusedSimpArgs false
namespace Go.Dig
theorem ln_half (m : Nat) : ln 4294967296 m = (ln 65536 m + 1) / 2 := by
  have key : ∀ k, ln 4294967296 m ≤ k ↔ ln 65536 m ≤ 2 * k := fun k => by
    rw [ln_le_iff (by decide), ln_le_iff (by decide), Nat.pow_mul]
  have h1 := (key (ln 4294967296 m)).1 (Nat.le_refl _)
  have h2 := (key ((ln 65536 m + 1) / 2)).2 (by omega)
  omega
theorem word_digit (m k : Nat) : m / 4294967296 ^ k % 4294967296 = m / 65536 ^ (2 * k) % 65536 + 65536 * (m / 65536 ^ (2 * k + 1) % 65536) := by
  have e1 : (4294967296 : Nat) ^ k = 65536 ^ (2 * k) := by rw [Nat.pow_mul]
  rw [e1, Nat.pow_succ, ← Nat.div_div_eq_div_mul]
  generalize m / 65536 ^ (2 * k) = x
  omega
end Go.Dig
namespace Go.Proofs.YteblflmnhegmjaaDoor
open Go Go.Vc Go.Dig

set_option maxRecDepth 20000 in
theorem words_ct (h : Heap) (s : Sl) (l : List Nat) (hw : Ws .u32 h s l) (hl : ∀ x ∈ l, x < 4294967296) (hm : l.length ≤ 1099511627776) :
    Fn0 T F.ref01_words [s.val] h fun v h' => ∃ s' : Sl, v = s'.val ∧ IsRef h' s' (evl 4294967296 l) := by
  have hlen := hw.len
  refine fn0_of_codeI ok D.ref01_words rfl ?_
  conv => whnf
  repeat ((first | refine opsI.step ?_ | refine codeI.step ?_); conv => whnf)
  skip
  refine LoopN.of (fun r ρ h' L => ∃ (k : Nat) (v : Value) (xs : List Nat), r = l.length - k ∧ h' = h ∧ rd ρ 8 = .int .i64 k ∧ rd ρ 3 = v ∧ GrowS Ty.uint32 1 v (2 * k) (xs.map (vu .u32)) L ∧ k ≤ l.length ∧ xs.length = 2 * k ∧ (∀ x ∈ xs, x < 65536) ∧ evl 65536 xs = evl 4294967296 (l.take k)) l.length
    ⟨0, _, [], rfl, rfl, rfl, rfl, GrowS.none, by omega, rfl, by simp, by simp [evl_nil]⟩ ?_
  conv => whnf
  repeat intro _
  rename_i r h1 L1 hI
  obtain ⟨k, v, xs, rfl, rfl, e0, e1, g, hk, hxl, hxB, heq⟩ := hI
  conv at e0 => lhs; whnf
  subst e0
  conv at e1 => lhs; whnf
  subst e1
  have hd := getD_lt (b := 4294967296) (by omega) hl k
  conv => whnf
  repeat ((first | refine opsI.step ?_ | refine codeI.step ?_); conv => whnf)
  repeat' first
   | (show Idx _ _ _ _ _; first
     | (refine Idx.ws hw k (by omega) (by omega) (fun ad hv => ?_); conv => whnf))
   | (show Ld _ _ _ _; first
     | (refine Ld.of (by first | exact hv _ | (rename_i hv; exact hv _)) ?_; conv => whnf))
   | (show RemN _ _ _; first
     | (refine RemN.nn (by omega) (by omega) ?_; conv => whnf))
   | (show QuoN _ _ _ _; first
     | (refine QuoN.u32 (by omega) (by omega) (by omega) ?_; conv => whnf))
   | (show App _ _ _ _ _ _ _ _ _; first
     | (refine App.push2 rfl g (l.getD k 0 % 65536) (l.getD k 0 / 65536) (by omega) (by omega) (by omega) (by decide) (fun v' L' g' => ?_); conv => whnf))
   | ((first | refine opsI.step ?_ | refine codeI.step ?_); conv => whnf)
   | (intro (_ : Nat); conv => whnf)
   | (show WrapN _ _ _; first
     | (refine WrapN.i64 (by omega) (by omega) ?_; conv => whnf))
   | (show cnd _ _ _; first
     | (refine cnd_lt (fun _ => ?_) (fun _ => ?_) <;> first | (exfalso; omega) | (conv => whnf)))
  · refine ⟨rfl, l.length - (k + 1), by omega, k + 1, v', _, rfl, rfl, vi (by omega), rfl, (by rw [show 2 * (k + 1) = 2 * k + 2 by omega]; exact g'), by omega, by simp; omega, ?_, ?_⟩
    · intro y hy
      rcases List.mem_append.1 hy with hy | hy
      · exact hxB y hy
      · rcases List.mem_cons.1 hy with rfl | hy
        · omega
        · rcases List.mem_cons.1 hy with rfl | hy
          · omega
          · cases hy
    · rw [evl_append, hxl, heq, evl_take_next, Nat.pow_mul]
      congr 1
      simp only [evl_cons, evl_nil]
      rw [show (65536 : Nat) ^ 2 = 4294967296 by decide, Nat.mul_zero, Nat.add_zero, Nat.mod_add_div]
  · obtain rfl : k = l.length := by omega
    rw [List.take_length] at heq
    refine CallN.grow g rfl fun h' L' s hle hv w => ?_
    rw [hv]
    refine CallN.fn rfl (trim_ct _ s xs w hxB (by omega)) (fun v h' hl hr => ?_)
    obtain ⟨s', rfl, hs⟩ := hr
    conv => whnf
    repeat ((first | refine opsI.step ?_ | refine codeI.step ?_); conv => whnf)
    exact RetN.all ⟨s', rfl, by rw [← heq]; exact hs⟩

set_option maxRecDepth 20000 in
theorem list_ct (h : Heap) (s : Sl) (m : Nat) (hw : IsRef h s m) (hm : ln 65536 m ≤ 1099511627776) :
    Fn0 T F.ref01_list [s.val] h fun v h' => ∃ s' : Sl, v = s'.val ∧ IsNat h' s' m := by
  have hlen := hw.len
  have hh := ln_half m
  refine fn0_of_codeI ok D.ref01_list rfl ?_
  conv => whnf
  repeat ((first | refine opsI.step ?_ | refine codeI.step ?_); conv => whnf)
  skip
  refine LoopN.of (fun r ρ h' L => ∃ (k : Nat) (v : Value) (xs : List Nat), r = ln 4294967296 m - k ∧ h' = h ∧ rd ρ 4 = .int .i64 (2 * k : Nat) ∧ rd ρ 3 = v ∧ GrowS Ty.uint32 1 v k (xs.map (vu .u32)) L ∧ k ≤ ln 4294967296 m ∧ xs = (dg 4294967296 m).take k) (ln 4294967296 m)
    ⟨0, _, [], rfl, rfl, rfl, rfl, GrowS.none, by omega, by simp⟩ ?_
  conv => whnf
  repeat intro _
  rename_i r h1 L1 hI
  obtain ⟨k, v, xs, rfl, rfl, e0, e1, g, hk, hxs⟩ := hI
  conv at e0 => lhs; whnf
  subst e0
  conv at e1 => lhs; whnf
  subst e1
  have hd := dg_getD_lt two_le_b m (2 * k)
  have hd1 := dg_getD_lt two_le_b m (2 * k + 1)
  have hwd : (dg 4294967296 m).getD k 0 = (dg 65536 m).getD (2 * k) 0 + 65536 * (dg 65536 m).getD (2 * k + 1) 0 := by
    rw [dg_getD two_le_B, dg_getD two_le_b, dg_getD two_le_b, word_digit]
  have hz := ln_or16 (2 * k + 1) m
  conv => whnf
  repeat ((first | refine opsI.step ?_ | refine codeI.step ?_); conv => whnf)
  repeat' first
   | (show SeqN _ _ _ _ _ _ _; first
     | (refine SeqN.go ?_; conv => whnf))
   | (show Idx _ _ _ _ _; first
     | (refine Idx.ws hw (2 * k) (by omega) (by unfold ln at *; omega) (fun ad hv => ?_); conv => whnf)
     | (refine Idx.ws hw (2 * k + 1) (by omega) (by unfold ln at *; omega) (fun ad hv => ?_); conv => whnf))
   | (show Ld _ _ _ _; first
     | (refine Ld.of (by first | exact hv _ | (rename_i hv; exact hv _)) ?_; conv => whnf))
   | (show App _ _ _ _ _ _ _ _ _; first
     | (refine App.push rfl g ((dg 4294967296 m).getD k 0) (by omega) (by omega) (by decide) (fun v' L' g' => ?_); conv => whnf))
   | ((first | refine opsI.step ?_ | refine codeI.step ?_); conv => whnf)
   | (intro (_ : Nat); conv => whnf)
   | (show WrapN _ _ _; first
     | (refine WrapN.i64 (by omega) (by omega) ?_; conv => whnf)
     | (refine WrapN.u32 (by omega) (by omega) ?_; conv => whnf))
   | (show cnd _ _ _; first
     | (refine cnd_lt (fun _ => ?_) (fun _ => ?_) <;> first | (exfalso; omega) | (conv => whnf)))
  rotate_right
  · obtain rfl : k = ln 4294967296 m := by omega
    refine RetN.grow g fun h' s hle hv w => ⟨s, hv, ?_⟩
    unfold IsNat
    rw [hxs] at w
    unfold ln at w
    rwa [List.take_length] at w
  all_goals
    refine ⟨rfl, ln 4294967296 m - (k + 1), by omega, k + 1, v', _, rfl, rfl, vi (by omega), rfl, g', by omega, ?_⟩
    rw [hxs, List.take_succ_eq_append_getElem (by unfold ln at *; omega)]
    simp [List.getD_eq_getElem?_getD, show k < (dg 4294967296 m).length by unfold ln at *; omega]

theorem bl_two {x : Nat} (h : 0 < x) : bl x = bl (x / 2) + 1 := by
  by_cases h1 : x = 1
  · subst h1; decide
  · have h2 : 2 ^ 1 ≤ x := by omega
    have := bl_div h2
    simpa [Nat.add_comm] using this
set_option maxRecDepth 20000 in
theorem NatBits_ct (h : Heap) (s : Sl) (n : Nat) (hs : IsRef h s n) (hb : ln 65536 n ≤ 1099511627776) : Fn0 T F.ref01_NatBits [s.val] h fun v h' => h' = h ∧ v = .int .i64 (bl n : Nat) := by
  have hl := hs.len
  have hz := ln_eq_zero two_le_b (n := n)
  have hd := dg_getD_lt two_le_b n (ln 65536 n - 1)
  refine fn0_of_codeI ok D.ref01_NatBits rfl ?_
  conv => whnf
  repeat ((first | refine opsI.step ?_ | refine codeI.step ?_); conv => whnf)
  refine cnd_eq (fun h1 => ?_) (fun h1 => ?_)
  · conv => whnf
    repeat ((first | refine opsI.step ?_ | refine codeI.step ?_); conv => whnf)
    exact RetN.all ⟨rfl, by rw [hz.1 (by omega)]; rfl⟩
  · have h1 : 0 < ln 65536 n := by omega
    have he := bl_dg (p := 16) (n := n) (by omega) (fun e => by rw [hz.2 e] at h1; omega)
    rw [show (2 : Nat) ^ 16 = 65536 from rfl] at he
    have c4 : bl ((dg 65536 n).getD (ln 65536 n - 1) 0) ≤ 16 := bl_le_iff.2 (by omega)
    clear hz
    conv => whnf
    repeat ((first | refine opsI.step ?_ | refine codeI.step ?_); conv => whnf)
    repeat' first
     | (show Idx _ _ _ _ _; first
       | (refine Idx.ws hs (ln 65536 n - 1) (by omega) (by unfold ln at *; omega) (fun ad hv => ?_); conv => whnf))
     | (show Ld _ _ _ _; first
       | (refine Ld.of (by first | exact hv _ | (rename_i hv; exact hv _)) ?_; conv => whnf))
     | ((first | refine opsI.step ?_ | refine codeI.step ?_); conv => whnf)
     | (show WrapN _ _ _; first
       | (refine WrapN.i64 (by omega) (by omega) ?_; conv => whnf))
    obtain ⟨B0, hB0⟩ : ∃ B0, B0 = bl n := ⟨_, rfl⟩
    rw [← hB0] at he ⊢
    refine LoopN.of (fun r ρ h' L => L = [] ∧ h' = h ∧ ∃ c : Nat, rd ρ 4 = .int .u32 r ∧ rd ρ 3 = .int .i64 c ∧ c + bl r = B0 ∧ r < 65536) ((dg 65536 n).getD (ln 65536 n - 1) 0)
      ⟨rfl, rfl, 16 * (ln 65536 n - 1), rfl, vi (by omega), he.symm, hd⟩ ?_
    conv => whnf
    repeat intro _
    rename_i r h2 L2 hI
    obtain ⟨rfl, rfl, c, e0, e1, hc, hr⟩ := hI
    conv at e0 => lhs; whnf
    subst e0
    conv at e1 => lhs; whnf
    subst e1
    have hb2 : 0 < r → bl r = bl (r / 2) + 1 := fun hh => bl_two hh
    conv => whnf
    repeat ((first | refine opsI.step ?_ | refine codeI.step ?_); conv => whnf)
    repeat' first
     | (show QuoN _ _ _ _; first
       | (refine QuoN.u32 (by omega) (by omega) (by omega) ?_; conv => whnf))
     | ((first | refine opsI.step ?_ | refine codeI.step ?_); conv => whnf)
     | (show WrapN _ _ _; first
       | (refine WrapN.i64 (by omega) (by omega) ?_; conv => whnf))
     | (show cnd _ _ _; first
       | (refine cnd_lt (fun _ => ?_) (fun _ => ?_) <;> first | (exfalso; omega) | (conv => whnf)))
    · exact ⟨rfl, r / 2, by omega, rfl, rfl, c + 1, vi (by omega), vi (by omega), by omega, by omega⟩
    · obtain rfl : r = 0 := by omega
      rw [bl_zero] at hc
      exact RetN.all ⟨rfl, vi (by omega)⟩

set_option maxRecDepth 20000 in
theorem NatPow_ct (h : Heap) (a : Sl) (A N : Nat) (ha : IsRef h a A) (hb : N * ln 65536 A ≤ 8589934590) (la : ln 65536 A ≤ 8589934592) (hN : N ≤ 65536) :
    Fn0 T F.ref01_NatPow [a.val, .int .i64 N] h fun v h' => ∃ s : Sl, v = s.val ∧ IsRef h' s (A ^ N) := by
  have p6 := ln_one 65536 two_le_b
  refine fn0_of_codeI ok D.ref01_NatPow rfl ?_
  conv => whnf
  repeat ((first | refine opsI.step ?_ | refine codeI.step ?_); conv => whnf)
  repeat' first
   | (show CallN _ _ _ _ _ _; first
     | (refine CallN.fn rfl (NatOf_ct _ 1 (by omega)) (fun v h' hl hr => ?_); obtain ⟨s', rfl, hs'⟩ := hr; conv => whnf))
   | ((first | refine opsI.step ?_ | refine codeI.step ?_); conv => whnf)
  refine LoopN.of (fun r ρ h' L => ∃ (k : Nat) (o : Sl), r = N - k ∧ L = [] ∧ h.le h' ∧ rd ρ 8 = .int .i64 k ∧ rd ρ 5 = o.val ∧ IsRef h' o (A ^ k) ∧ k ≤ N ∧ Hq (ln 65536 (A ^ k) ≤ 1 + k * ln 65536 A)) N
    ⟨0, s', rfl, rfl, hl, rfl, rfl, by rw [Nat.pow_zero]; exact hs', by omega, ⟨by rw [Nat.pow_zero, p6]; omega⟩⟩ ?_
  conv => whnf
  repeat intro _
  rename_i r h2 L2 hI
  obtain ⟨k, o, rfl, rfl, hle, e0, e1, ho, hk, hsz⟩ := hI
  conv at e0 => lhs; whnf
  subst e0
  conv at e1 => lhs; whnf
  subst e1
  have l1 : ln 65536 (A ^ k) ≤ 1 + N * ln 65536 A := Nat.le_trans hsz.out (Nat.add_le_add_left (Nat.mul_le_mul_right _ hk) 1)
  have l2 := ln_mul two_le_b (A ^ k) A
  obtain ⟨P, hP⟩ : ∃ P, P = A ^ k := ⟨_, rfl⟩
  rw [← hP] at l1 l2 ho hsz
  conv => whnf
  repeat ((first | refine opsI.step ?_ | refine codeI.step ?_); conv => whnf)
  repeat' first
   | (show CallN _ _ _ _ _ _; first
     | (refine CallN.fn rfl (NatMul_ct _ _ _ _ _ (by assumption) (by (iterate 30 (try first | assumption | refine Ws.mono ?_ (by assumption))); first | done | assumption) (by omega) (by omega)) (fun v h' hl hr => ?_); obtain ⟨t', rfl, ht'⟩ := hr; conv => whnf))
   | ((first | refine opsI.step ?_ | refine codeI.step ?_); conv => whnf)
   | (show WrapN _ _ _; first
     | (refine WrapN.i64 (by omega) (by omega) ?_; conv => whnf))
   | (show cnd _ _ _; first
     | (refine cnd_lt (fun _ => ?_) (fun _ => ?_) <;> first | (exfalso; omega) | (conv => whnf)))
  · exact ⟨rfl, N - (k + 1), by omega, k + 1, t', rfl, rfl, (by (iterate 30 (try first | assumption | refine Heap.le_trans ?_ (by assumption))); first | done | assumption), vi (by omega), rfl, by rw [Nat.pow_succ, ← hP]; exact ht', by omega, ⟨by
      have := hsz.out
      rw [Nat.pow_succ, ← hP, Nat.add_mul, Nat.one_mul]; omega⟩⟩
  · obtain rfl : k = N := by omega
    exact RetN.all ⟨o, rfl, by rw [← hP]; exact ho⟩
end Go.Proofs.YteblflmnhegmjaaDoor
