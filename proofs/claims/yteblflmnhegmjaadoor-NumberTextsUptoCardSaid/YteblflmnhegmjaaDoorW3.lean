/- Contracts of package word's functions on natural numbers, third part: binary digits, shifts, division by a word. -/
import Derived.Test.YteblflmnhegmjaaDoorW2
import Derived.Test.YteblflmnhegmjaaDoorDig
set_option linter.unusedVariables false
set_option linter.unusedSimpArgs false
namespace Go.Proofs.YteblflmnhegmjaaDoor
open Go Go.Vc Go.Dig

theorem lenTab (j : Nat) (hj : j < 256) : bl j < 256 := by
  have : bl j ≤ 8 := bl_le_iff.2 (by omega)
  omega

theorem Len32_ct (h : Heap) (x : Nat) (hx : x < 4294967296) : Fn0 T F.math_bits_Len32 [.int .u32 x] h fun v h' => h' = h ∧ v = .int .i64 (bl x : Nat) := by
  have b1 : 65536 ≤ x → bl x = 16 + bl (x / 65536) := fun hh => bl_div (k := 16) hh
  have b2 : 256 ≤ x → bl x = 8 + bl (x / 256) := fun hh => bl_div (k := 8) hh
  have b3 : 256 ≤ x / 65536 → bl (x / 65536) = 8 + bl (x / 65536 / 256) := fun hh => bl_div (k := 8) hh
  have c : ∀ y, y < 4294967296 → bl y ≤ 32 := fun y hy => bl_le_iff.2 (by omega)
  have c1 := c (x / 65536) (by omega)
  have c2 := c (x / 256) (by omega)
  have c3 := c (x / 65536 / 256) (by omega)
  have c4 := c x (by omega)
  refine fn0_of_codeI ok D.math_bits_Len32 rfl ?_
  conv => whnf
  repeat ((first | refine opsI.step ?_ | refine codeI.step ?_); conv => whnf)
  repeat' first
   | (show SeqN _ _ _ _ _ _ _; first
     | (refine SeqN.go ?_; conv => whnf))
   | (show ShrN _ _ _ _; first
     | (refine ShrN.of 16 (by decide) (by omega) ?_; conv => whnf)
     | (refine ShrN.of 8 (by decide) (by omega) ?_; conv => whnf))
   | (show IdxS _ _ _; first
     | (refine IdxS.tab bl 256 (fun j hj => ⟨by revert j; decide +kernel, lenTab j hj⟩) (x / 65536 / 256) (by omega) (by omega) ?_; conv => whnf)
     | (refine IdxS.tab bl 256 (fun j hj => ⟨by revert j; decide +kernel, lenTab j hj⟩) (x / 65536) (by omega) (by omega) ?_; conv => whnf)
     | (refine IdxS.tab bl 256 (fun j hj => ⟨by revert j; decide +kernel, lenTab j hj⟩) (x / 256) (by omega) (by omega) ?_; conv => whnf)
     | (refine IdxS.tab bl 256 (fun j hj => ⟨by revert j; decide +kernel, lenTab j hj⟩) x (by omega) (by omega) ?_; conv => whnf))
   | ((first | refine opsI.step ?_ | refine codeI.step ?_); conv => whnf)
   | (show WrapN _ _ _; first
     | (refine WrapN.i64 (by omega) (by omega) ?_; conv => whnf)
     | (refine WrapN.u8 (by omega) (by omega) ?_; conv => whnf))
   | (show cnd _ _ _; first
     | (refine cnd_le (fun _ => ?_) (fun _ => ?_) <;> first | (exfalso; omega) | (conv => whnf)))
  · exact RetN.all ⟨rfl, vi (by have := b1 (by omega); have := b3 (by omega); omega)⟩
  · exact RetN.all ⟨rfl, vi (by have := b1 (by omega); omega)⟩
  · exact RetN.all ⟨rfl, vi (by have := b2 (by omega); omega)⟩
  · exact RetN.all ⟨rfl, vi (by omega)⟩

theorem LeadingZeros32_ct (h : Heap) (x : Nat) (hx : x < 4294967296) : Fn0 T F.math_bits_LeadingZeros32 [.int .u32 x] h fun v h' => h' = h ∧ v = .int .i64 (32 - (bl x : Nat) : Int) := by
  have c4 : bl x ≤ 32 := bl_le_iff.2 (by omega)
  refine fn0_of_codeI ok D.math_bits_LeadingZeros32 rfl ?_
  conv => whnf
  repeat ((first | refine opsI.step ?_ | refine codeI.step ?_); conv => whnf)
  repeat' first
   | (show CallN _ _ _ _ _ _; first
     | (refine CallN.fn rfl (Len32_ct h x hx) (fun v h' hl hr => ?_); obtain ⟨rfl, rfl⟩ := hr; conv => whnf))
   | ((first | refine opsI.step ?_ | refine codeI.step ?_); conv => whnf)
   | (show WrapN _ _ _; first
     | (refine WrapN.i64 (by omega) (by omega) ?_; conv => whnf))
  exact RetN.all ⟨rfl, rfl⟩

theorem Bits_ct (h : Heap) (s : Sl) (n : Nat) (hs : IsNat h s n) (hb : ln 4294967296 n ≤ 1099511627776) : Fn0 T F.word_Nat_Bits [s.val] h fun v h' => h' = h ∧ v = .int .i64 (bl n : Nat) := by
  have hl := hs.len
  have hz := ln_eq_zero two_le_B (n := n)
  have hd := dg_getD_lt two_le_B n (ln 4294967296 n - 1)
  have c4 : bl ((dg 4294967296 n).getD (ln 4294967296 n - 1) 0) ≤ 32 := bl_le_iff.2 (by omega)
  refine fn0_of_codeI ok D.word_Nat_Bits rfl ?_
  conv => whnf
  repeat ((first | refine opsI.step ?_ | refine codeI.step ?_); conv => whnf)
  refine cnd_eq (fun h1 => ?_) (fun h1 => ?_)
  · conv => whnf
    repeat ((first | refine opsI.step ?_ | refine codeI.step ?_); conv => whnf)
    exact RetN.all ⟨rfl, by rw [hz.1 (by omega)]; rfl⟩
  · conv => whnf
    repeat ((first | refine opsI.step ?_ | refine codeI.step ?_); conv => whnf)
    have h1 : 0 < ln 4294967296 n := by omega
    have he := bl_dg (p := 32) (n := n) (by omega) (fun e => by rw [hz.2 e] at h1; omega)
    rw [show (2 : Nat) ^ 32 = 4294967296 from rfl] at he
    clear hz
    repeat' first
     | (show Idx _ _ _ _ _; first
       | (refine Idx.ws hs (ln 4294967296 n - 1) (by omega) (by unfold ln at *; omega) (fun ad hv => ?_); conv => whnf))
     | (show Ld _ _ _ _; first
       | (refine Ld.of (by first | exact hv _ | (rename_i hv; exact hv _)) ?_; conv => whnf))
     | (show CallN _ _ _ _ _ _; first
       | (refine CallN.fn rfl (Len32_ct h _ hd) (fun v h' hl hr => ?_); obtain ⟨rfl, rfl⟩ := hr; conv => whnf))
     | ((first | refine opsI.step ?_ | refine codeI.step ?_); conv => whnf)
     | (show WrapN _ _ _; first
       | (refine WrapN.i64 (by omega) (by omega) ?_; conv => whnf))
    exact RetN.all ⟨rfl, vi (by omega)⟩

/-- what the package's table of a de Bruijn sequence holds -/
def tabL : List Nat := [0, 1, 28, 2, 29, 14, 24, 3, 30, 22, 20, 15, 25, 17, 4, 8, 31, 27, 13, 23, 21, 19, 16, 7, 26, 12, 18, 6, 11, 5, 10, 9]
def Tb (h : Heap) : Prop := ∃ T fz, h Gl.math_bits_deBruijn32tab = some (.cells (tabL.map (vu .u8)).toArray T fz)
theorem Tb.mono {h h' : Heap} (t : Tb h) (hl : h.le h') : Tb h' := let ⟨T, fz, e⟩ := t; ⟨T, fz, hl _ _ e⟩
theorem tab_at : ∀ k, k < 32 → tabL.getD (2 ^ k * 125613361 % 4294967296 / 134217728) 0 = k ∧ 2 ^ k * 125613361 % 4294967296 / 134217728 < 32 ∧ 2 ^ k < 4294967296 := by decide

theorem idx27 (p : Nat) : (p : Int) * 125613361 % 4294967296 / 2 ^ 27 = ((p * 125613361 % 4294967296 / 134217728 : Nat) : Int) := by omega
theorem TrailingZeros32_ct (h : Heap) (tb : Tb h) (x : Nat) (hx : x < 4294967296) (h0 : x ≠ 0) : Fn0 T F.math_bits_TrailingZeros32 [.int .u32 x] h fun v h' => h' = h ∧ v = .int .i64 (tw x : Nat) := by
  obtain ⟨m, hm⟩ := tw_spec h0
  have hk : tw x < 32 := by
    rcases Nat.lt_or_ge (tw x) 32 with hh | hh
    · exact hh
    · have := Nat.pow_le_pow_right (n := 2) (by omega) hh
      have : 2 ^ tw x * 1 ≤ 2 ^ tw x * (2 * m + 1) := Nat.mul_le_mul_left _ (by omega)
      omega
  have ha := and_neg hm hx
  rw [show (2 : Nat) ^ 32 = 4294967296 from rfl] at ha
  obtain ⟨t1, t2, t3⟩ := tab_at _ hk
  obtain ⟨Tt, fz, hb⟩ := tb
  refine fn0_of_codeI ok D.math_bits_TrailingZeros32 rfl ?_
  conv => whnf
  repeat ((first | refine opsI.step ?_ | refine codeI.step ?_); conv => whnf)
  refine cnd_eq (fun h1 => by omega) (fun h1 => ?_)
  conv => whnf
  repeat ((first | refine opsI.step ?_ | refine codeI.step ?_); conv => whnf)
  refine WrapN.u32m ?_
  conv => whnf
  repeat ((first | refine opsI.step ?_ | refine codeI.step ?_); conv => whnf)
  refine BitN.and x (4294967296 - x) rfl (by omega) hx (by show _ < 4294967296; omega) rfl ?_
  rw [ha]
  generalize hp : 2 ^ tw x = p at *
  conv => whnf
  repeat ((first | refine opsI.step ?_ | refine codeI.step ?_); conv => whnf)
  refine WrapN.u32m ?_
  conv => whnf
  repeat ((first | refine opsI.step ?_ | refine codeI.step ?_); conv => whnf)
  refine ShrN.of 27 (by decide) (by omega) ?_
  conv => whnf
  repeat ((first | refine opsI.step ?_ | refine codeI.step ?_); conv => whnf)
  refine Idx.own (p * 125613361 % 4294967296 / 134217728) (idx27 p) t2 ?_
  conv => whnf
  repeat ((first | refine opsI.step ?_ | refine codeI.step ?_); conv => whnf)
  refine Ld.of (Has.imm hb (row_get t2)) ?_
  rw [t1]
  conv => whnf
  repeat ((first | refine opsI.step ?_ | refine codeI.step ?_); conv => whnf)
  refine WrapN.i64 (by omega) (by omega) ?_
  conv => whnf
  repeat ((first | refine opsI.step ?_ | refine codeI.step ?_); conv => whnf)
  exact RetN.all ⟨rfl, rfl⟩

theorem Twos_ct (h : Heap) (tb : Tb h) (s : Sl) (n : Nat) (hs : IsNat h s n) (hb : ln 4294967296 n ≤ 1099511627776) : Fn0 T F.word_Nat_Twos [s.val] h fun v h' => h' = h ∧ v = .int .i64 (tw n : Nat) := by
  have hl := hs.len
  refine fn0_of_codeI ok D.word_Nat_Twos rfl ?_
  conv => whnf
  repeat ((first | refine opsI.step ?_ | refine codeI.step ?_); conv => whnf)
  refine LoopN.of (fun r ρ h' L => ∃ k : Nat, r = ln 4294967296 n - k ∧ h' = h ∧ L = [] ∧ rd ρ 7 = .int .i64 k ∧ k ≤ ln 4294967296 n ∧ ∀ j, j < k → (dg 4294967296 n).getD j 0 = 0) (ln 4294967296 n) ⟨0, rfl, rfl, rfl, rfl, by omega, fun j hj => by omega⟩ ?_
  conv => whnf
  repeat intro _
  rename_i r h2 L2 hI
  obtain ⟨k, rfl, rfl, rfl, e0, hk, hz⟩ := hI
  conv at e0 => lhs; whnf
  subst e0
  have hd := dg_getD_lt two_le_B n k
  conv => whnf
  repeat ((first | refine opsI.step ?_ | refine codeI.step ?_); conv => whnf)
  refine cnd_lt (fun h1 => ?_) (fun h1 => ?_)
  · conv => whnf
    repeat ((first | refine opsI.step ?_ | refine codeI.step ?_); conv => whnf)
    refine Idx.ws hs k (by omega) (by unfold ln at *; omega) (fun ad hv => ?_)
    conv => whnf
    repeat ((first | refine opsI.step ?_ | refine codeI.step ?_); conv => whnf)
    refine Ld.of (hv _) ?_
    conv => whnf
    repeat ((first | refine opsI.step ?_ | refine codeI.step ?_); conv => whnf)
    refine cnd_not (cnd_eq (fun h2 => ?_) (fun h2 => ?_))
    · conv => whnf
      repeat ((first | refine opsI.step ?_ | refine codeI.step ?_); conv => whnf)
      refine WrapN.i64 (by omega) (by omega) ?_
      conv => whnf
      repeat ((first | refine opsI.step ?_ | refine codeI.step ?_); conv => whnf)
      refine ⟨rfl, ln 4294967296 n - (k + 1), by omega, k + 1, rfl, rfl, rfl, vi (by omega), by omega, fun j hj => ?_⟩
      by_cases hjk : j = k
      · subst hjk; omega
      · exact hz j (by omega)
    · conv => whnf
      repeat ((first | refine opsI.step ?_ | refine codeI.step ?_); conv => whnf)
      have h2' : (dg 4294967296 n).getD k 0 ≠ 0 := by omega
      have ht : tw n = 32 * k + tw ((dg 4294967296 n).getD k 0) := by
        refine tw_word (r := n / 4294967296 ^ k / 4294967296) ?_ hd h2'
        have e := low_zero two_le_B hz
        have e2 := Nat.mod_add_div (n / 4294967296 ^ k) 4294967296
        rw [← dg_getD two_le_B] at e2
        conv => lhs; rw [e, ← e2]
        rw [Nat.pow_mul]
      have hk2 : tw ((dg 4294967296 n).getD k 0) ≤ 31 := by
        rcases Nat.lt_or_ge (tw ((dg 4294967296 n).getD k 0)) 32 with hh | hh
        · omega
        · have := Nat.le_of_dvd (by omega) ((tw_le h2').1 hh); omega
      repeat' first
       | (show CallN _ _ _ _ _ _; first
         | (refine CallN.fn rfl (TrailingZeros32_ct _ tb _ hd h2') (fun v h' hl hr => ?_); obtain ⟨rfl, rfl⟩ := hr; conv => whnf))
       | ((first | refine opsI.step ?_ | refine codeI.step ?_); conv => whnf)
       | (show WrapN _ _ _; first
         | (refine WrapN.i64 (by omega) (by omega) ?_; conv => whnf))
      exact RetN.all ⟨rfl, vi (by omega)⟩
  · conv => whnf
    repeat ((first | refine opsI.step ?_ | refine codeI.step ?_); conv => whnf)
    have h0 : n = 0 := by
      have e := low_zero two_le_B hz
      have hlt := lt_pow_ln two_le_B n
      rw [show k = ln 4294967296 n by omega, Nat.div_eq_of_lt hlt, Nat.mul_zero] at e
      exact e
    exact RetN.all ⟨rfl, by subst h0; rfl⟩
end Go.Proofs.YteblflmnhegmjaaDoor
