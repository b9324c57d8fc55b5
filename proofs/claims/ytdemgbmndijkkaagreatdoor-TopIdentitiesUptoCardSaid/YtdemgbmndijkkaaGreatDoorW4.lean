/- Contracts of package word's functions on natural numbers, third part: binary digits, shifts, division by a word. -/
import Derived.Test.YtdemgbmndijkkaaGreatDoorW2
import Derived.Test.YtdemgbmndijkkaaGreatDoorDig
set_option linter.unusedVariables false
set_option linter.unusedSimpArgs false
namespace Go.Proofs.YtdemgbmndijkkaaGreatDoor
open Go Go.Vc Go.Dig

theorem lenTab (j : Nat) (hj : j < 256) : bl j < 256 := by
  have : bl j ≤ 8 := bl_le_iff.2 (by omega)
  omega

theorem Len32_ct (h : Heap) (x : Nat) (hx : x < 4294967296) : Fn0 T F.math_bits_Len32 [.int .u32 x] h fun v h' => h' = h ∧ v = .int .i64 (bl x : Nat) := by
  have b1 : 65536 ≤ x → bl x = 16 + bl (x / 65536) := fun hh => bl_div (k := 16) hh
  have b2 : 256 ≤ x → bl x = 8 + bl (x / 256) := fun hh => bl_div (k := 8) hh
  have b3 : 256 ≤ x / 65536 → bl (x / 65536) = 8 + bl (x / 65536 / 256) := fun hh => bl_div (k := 8) hh
  have c : ∀ y, y < 4294967296 → bl y ≤ 32 := fun y hy => bl_le_iff.2 (by omega)
  have c1 := c (x / 65536) (by omega)
  have c2 := c (x / 256) (by omega)
  have c3 := c (x / 65536 / 256) (by omega)
  have c4 := c x (by omega)
  refine fn0_of_codeI ok D.math_bits_Len32 rfl ?_
  conv => whnf
  repeat ((first | refine opsI.step ?_ | refine codeI.step ?_); conv => whnf)
  repeat' first
   | (show SeqN _ _ _ _ _ _ _; first
     | (refine SeqN.go ?_; conv => whnf))
   | (show ShrN _ _ _ _; first
     | (refine ShrN.of 16 (by decide) (by omega) ?_; conv => whnf)
     | (refine ShrN.of 8 (by decide) (by omega) ?_; conv => whnf))
   | (show IdxS _ _ _; first
     | (refine IdxS.tab bl 256 (fun j hj => ⟨by revert j; decide +kernel, lenTab j hj⟩) (x / 65536 / 256) (by omega) (by omega) ?_; conv => whnf)
     | (refine IdxS.tab bl 256 (fun j hj => ⟨by revert j; decide +kernel, lenTab j hj⟩) (x / 65536) (by omega) (by omega) ?_; conv => whnf)
     | (refine IdxS.tab bl 256 (fun j hj => ⟨by revert j; decide +kernel, lenTab j hj⟩) (x / 256) (by omega) (by omega) ?_; conv => whnf)
     | (refine IdxS.tab bl 256 (fun j hj => ⟨by revert j; decide +kernel, lenTab j hj⟩) x (by omega) (by omega) ?_; conv => whnf))
   | ((first | refine opsI.step ?_ | refine codeI.step ?_); conv => whnf)
   | (show WrapN _ _ _; first
     | (refine WrapN.i64 (by omega) (by omega) ?_; conv => whnf)
     | (refine WrapN.u8 (by omega) (by omega) ?_; conv => whnf))
   | (show cnd _ _ _; first
     | (refine cnd_le (fun _ => ?_) (fun _ => ?_) <;> first | (exfalso; omega) | (conv => whnf)))
  · exact RetN.all ⟨rfl, vi (by have := b1 (by omega); have := b3 (by omega); omega)⟩
  · exact RetN.all ⟨rfl, vi (by have := b1 (by omega); omega)⟩
  · exact RetN.all ⟨rfl, vi (by have := b2 (by omega); omega)⟩
  · exact RetN.all ⟨rfl, vi (by omega)⟩

theorem LeadingZeros32_ct (h : Heap) (x : Nat) (hx : x < 4294967296) : Fn0 T F.math_bits_LeadingZeros32 [.int .u32 x] h fun v h' => h' = h ∧ v = .int .i64 (32 - (bl x : Nat) : Int) := by
  have c4 : bl x ≤ 32 := bl_le_iff.2 (by omega)
  refine fn0_of_codeI ok D.math_bits_LeadingZeros32 rfl ?_
  conv => whnf
  repeat ((first | refine opsI.step ?_ | refine codeI.step ?_); conv => whnf)
  repeat' first
   | (show CallN _ _ _ _ _ _; first
     | (refine CallN.fn rfl (Len32_ct h x hx) (fun v h' hl hr => ?_); obtain ⟨rfl, rfl⟩ := hr; conv => whnf))
   | ((first | refine opsI.step ?_ | refine codeI.step ?_); conv => whnf)
   | (show WrapN _ _ _; first
     | (refine WrapN.i64 (by omega) (by omega) ?_; conv => whnf))
  exact RetN.all ⟨rfl, rfl⟩

theorem Bits_ct (h : Heap) (s : Sl) (n : Nat) (hs : IsNat h s n) (hb : ln 4294967296 n ≤ 1099511627776) : Fn0 T F.word_Nat_Bits [s.val] h fun v h' => h' = h ∧ v = .int .i64 (bl n : Nat) := by
  have hl := hs.len
  have hz := ln_eq_zero two_le_B (n := n)
  have hd := dg_getD_lt two_le_B n (ln 4294967296 n - 1)
  have c4 : bl ((dg 4294967296 n).getD (ln 4294967296 n - 1) 0) ≤ 32 := bl_le_iff.2 (by omega)
  refine fn0_of_codeI ok D.word_Nat_Bits rfl ?_
  conv => whnf
  repeat ((first | refine opsI.step ?_ | refine codeI.step ?_); conv => whnf)
  refine cnd_eq (fun h1 => ?_) (fun h1 => ?_)
  · conv => whnf
    repeat ((first | refine opsI.step ?_ | refine codeI.step ?_); conv => whnf)
    exact RetN.all ⟨rfl, by rw [hz.1 (by omega)]; rfl⟩
  · conv => whnf
    repeat ((first | refine opsI.step ?_ | refine codeI.step ?_); conv => whnf)
    have h1 : 0 < ln 4294967296 n := by omega
    have he := bl_dg (p := 32) (n := n) (by omega) (fun e => by rw [hz.2 e] at h1; omega)
    rw [show (2 : Nat) ^ 32 = 4294967296 from rfl] at he
    clear hz
    repeat' first
     | (show Idx _ _ _ _ _; first
       | (refine Idx.ws hs (ln 4294967296 n - 1) (by omega) (by unfold ln at *; omega) (fun ad hv => ?_); conv => whnf))
     | (show Ld _ _ _ _; first
       | (refine Ld.of (by first | exact hv _ | (rename_i hv; exact hv _)) ?_; conv => whnf))
     | (show CallN _ _ _ _ _ _; first
       | (refine CallN.fn rfl (Len32_ct h _ hd) (fun v h' hl hr => ?_); obtain ⟨rfl, rfl⟩ := hr; conv => whnf))
     | ((first | refine opsI.step ?_ | refine codeI.step ?_); conv => whnf)
     | (show WrapN _ _ _; first
       | (refine WrapN.i64 (by omega) (by omega) ?_; conv => whnf))
    exact RetN.all ⟨rfl, vi (by omega)⟩

/-- what the package's table of a de Bruijn sequence holds -/
def tabL : List Nat := [0, 1, 28, 2, 29, 14, 24, 3, 30, 22, 20, 15, 25, 17, 4, 8, 31, 27, 13, 23, 21, 19, 16, 7, 26, 12, 18, 6, 11, 5, 10, 9]
def Tb (h : Heap) : Prop := ∃ T fz, h Gl.math_bits_deBruijn32tab = some (.cells (tabL.map (vu .u8)).toArray T fz)
theorem Tb.mono {h h' : Heap} (t : Tb h) (hl : h.le h') : Tb h' := let ⟨T, fz, e⟩ := t; ⟨T, fz, hl _ _ e⟩
theorem tab_at : ∀ k, k < 32 → tabL.getD (2 ^ k * 125613361 % 4294967296 / 134217728) 0 = k ∧ 2 ^ k * 125613361 % 4294967296 / 134217728 < 32 ∧ 2 ^ k < 4294967296 := by decide

theorem idx27 (p : Nat) : (p : Int) * 125613361 % 4294967296 / 2 ^ 27 = ((p * 125613361 % 4294967296 / 134217728 : Nat) : Int) := by omega
theorem TrailingZeros32_ct (h : Heap) (tb : Tb h) (x : Nat) (hx : x < 4294967296) (h0 : x ≠ 0) : Fn0 T F.math_bits_TrailingZeros32 [.int .u32 x] h fun v h' => h' = h ∧ v = .int .i64 (tw x : Nat) := by
  obtain ⟨m, hm⟩ := tw_spec h0
  have hk : tw x < 32 := by
    rcases Nat.lt_or_ge (tw x) 32 with hh | hh
    · exact hh
    · have := Nat.pow_le_pow_right (n := 2) (by omega) hh
      have : 2 ^ tw x * 1 ≤ 2 ^ tw x * (2 * m + 1) := Nat.mul_le_mul_left _ (by omega)
      omega
  have ha := and_neg hm hx
  rw [show (2 : Nat) ^ 32 = 4294967296 from rfl] at ha
  obtain ⟨t1, t2, t3⟩ := tab_at _ hk
  obtain ⟨Tt, fz, hb⟩ := tb
  refine fn0_of_codeI ok D.math_bits_TrailingZeros32 rfl ?_
  conv => whnf
  repeat ((first | refine opsI.step ?_ | refine codeI.step ?_); conv => whnf)
  refine cnd_eq (fun h1 => by omega) (fun h1 => ?_)
  conv => whnf
  repeat ((first | refine opsI.step ?_ | refine codeI.step ?_); conv => whnf)
  refine WrapN.u32m ?_
  conv => whnf
  repeat ((first | refine opsI.step ?_ | refine codeI.step ?_); conv => whnf)
  refine BitN.and x (4294967296 - x) rfl (by omega) hx (by show _ < 4294967296; omega) rfl ?_
  rw [ha]
  generalize hp : 2 ^ tw x = p at *
  conv => whnf
  repeat ((first | refine opsI.step ?_ | refine codeI.step ?_); conv => whnf)
  refine WrapN.u32m ?_
  conv => whnf
  repeat ((first | refine opsI.step ?_ | refine codeI.step ?_); conv => whnf)
  refine ShrN.of 27 (by decide) (by omega) ?_
  conv => whnf
  repeat ((first | refine opsI.step ?_ | refine codeI.step ?_); conv => whnf)
  refine Idx.own (p * 125613361 % 4294967296 / 134217728) (idx27 p) t2 ?_
  conv => whnf
  repeat ((first | refine opsI.step ?_ | refine codeI.step ?_); conv => whnf)
  refine Ld.of (Has.imm hb (row_get t2)) ?_
  rw [t1]
  conv => whnf
  repeat ((first | refine opsI.step ?_ | refine codeI.step ?_); conv => whnf)
  refine WrapN.i64 (by omega) (by omega) ?_
  conv => whnf
  repeat ((first | refine opsI.step ?_ | refine codeI.step ?_); conv => whnf)
  exact RetN.all ⟨rfl, rfl⟩

theorem Twos_ct (h : Heap) (tb : Tb h) (s : Sl) (n : Nat) (hs : IsNat h s n) (hb : ln 4294967296 n ≤ 1099511627776) : Fn0 T F.word_Nat_Twos [s.val] h fun v h' => h' = h ∧ v = .int .i64 (tw n : Nat) := by
  have hl := hs.len
  refine fn0_of_codeI ok D.word_Nat_Twos rfl ?_
  conv => whnf
  repeat ((first | refine opsI.step ?_ | refine codeI.step ?_); conv => whnf)
  refine LoopN.of (fun r ρ h' L => ∃ k : Nat, r = ln 4294967296 n - k ∧ h' = h ∧ L = [] ∧ rd ρ 7 = .int .i64 k ∧ k ≤ ln 4294967296 n ∧ ∀ j, j < k → (dg 4294967296 n).getD j 0 = 0) (ln 4294967296 n) ⟨0, rfl, rfl, rfl, rfl, by omega, fun j hj => by omega⟩ ?_
  conv => whnf
  repeat intro _
  rename_i r h2 L2 hI
  obtain ⟨k, rfl, rfl, rfl, e0, hk, hz⟩ := hI
  conv at e0 => lhs; whnf
  subst e0
  have hd := dg_getD_lt two_le_B n k
  conv => whnf
  repeat ((first | refine opsI.step ?_ | refine codeI.step ?_); conv => whnf)
  refine cnd_lt (fun h1 => ?_) (fun h1 => ?_)
  · conv => whnf
    repeat ((first | refine opsI.step ?_ | refine codeI.step ?_); conv => whnf)
    refine Idx.ws hs k (by omega) (by unfold ln at *; omega) (fun ad hv => ?_)
    conv => whnf
    repeat ((first | refine opsI.step ?_ | refine codeI.step ?_); conv => whnf)
    refine Ld.of (hv _) ?_
    conv => whnf
    repeat ((first | refine opsI.step ?_ | refine codeI.step ?_); conv => whnf)
    refine cnd_not (cnd_eq (fun h2 => ?_) (fun h2 => ?_))
    · conv => whnf
      repeat ((first | refine opsI.step ?_ | refine codeI.step ?_); conv => whnf)
      refine WrapN.i64 (by omega) (by omega) ?_
      conv => whnf
      repeat ((first | refine opsI.step ?_ | refine codeI.step ?_); conv => whnf)
      refine ⟨rfl, ln 4294967296 n - (k + 1), by omega, k + 1, rfl, rfl, rfl, vi (by omega), by omega, fun j hj => ?_⟩
      by_cases hjk : j = k
      · subst hjk; omega
      · exact hz j (by omega)
    · conv => whnf
      repeat ((first | refine opsI.step ?_ | refine codeI.step ?_); conv => whnf)
      have h2' : (dg 4294967296 n).getD k 0 ≠ 0 := by omega
      have ht : tw n = 32 * k + tw ((dg 4294967296 n).getD k 0) := by
        refine tw_word (r := n / 4294967296 ^ k / 4294967296) ?_ hd h2'
        have e := low_zero two_le_B hz
        have e2 := Nat.mod_add_div (n / 4294967296 ^ k) 4294967296
        rw [← dg_getD two_le_B] at e2
        conv => lhs; rw [e, ← e2]
        rw [Nat.pow_mul]
      have hk2 : tw ((dg 4294967296 n).getD k 0) ≤ 31 := by
        rcases Nat.lt_or_ge (tw ((dg 4294967296 n).getD k 0)) 32 with hh | hh
        · omega
        · have := Nat.le_of_dvd (by omega) ((tw_le h2').1 hh); omega
      repeat' first
       | (show CallN _ _ _ _ _ _; first
         | (refine CallN.fn rfl (TrailingZeros32_ct _ tb _ hd h2') (fun v h' hl hr => ?_); obtain ⟨rfl, rfl⟩ := hr; conv => whnf))
       | ((first | refine opsI.step ?_ | refine codeI.step ?_); conv => whnf)
       | (show WrapN _ _ _; first
         | (refine WrapN.i64 (by omega) (by omega) ?_; conv => whnf))
      exact RetN.all ⟨rfl, vi (by omega)⟩
  · conv => whnf
    repeat ((first | refine opsI.step ?_ | refine codeI.step ?_); conv => whnf)
    have h0 : n = 0 := by
      have e := low_zero two_le_B hz
      have hlt := lt_pow_ln two_le_B n
      rw [show k = ln 4294967296 n by omega, Nat.div_eq_of_lt hlt, Nat.mul_zero] at e
      exact e
    exact RetN.all ⟨rfl, by subst h0; rfl⟩
end Go.Proofs.YtdemgbmndijkkaaGreatDoor
/- More rules: shifts by a count that is not written out; more on digits. -/
namespace Go.Vc
open Go Go.Dig

theorem ShlN.u64p {x r : Nat} {a b : Int} {k : Int → Prop} (ha : a = (x : Nat)) (hb : b = (r : Nat)) (hx : x < 4294967296) (hr : r ≤ 31) (hk : ∀ p : Nat, Hq (p = x * 2 ^ r) → p < 9223372036854775808 → k p) : ShlN .u64 a b k := by
  subst ha hb
  have h1 : 2 ^ r ≤ 2 ^ 31 := Nat.pow_le_pow_right (by omega) hr
  have h2 : x * 2 ^ r ≤ 4294967295 * 2147483648 := Nat.mul_le_mul (by omega) h1
  refine ShlN.mk' r (by show r ≤ 64; omega) ?_
  have e : ((x : Int) * 2 ^ r) = ((x * 2 ^ r : Nat) : Int) := by push_cast; rfl
  rw [e, wrap_nat rfl (by show _ < 2 ^ 64; omega)]
  exact hk _ ⟨rfl⟩ (by omega)
theorem ShrN.sym {kd : IntKind} {x r : Nat} {a b : Int} {k : Int → Prop} (ha : a = (x : Nat)) (hb : b = (r : Nat)) (hr : r ≤ kd.bits) (hk : ∀ q : Nat, Hq (q = x / 2 ^ r) → q ≤ x → k q) : ShrN kd a b k := by
  subst ha hb
  refine ShrN.of r hr (by omega) ?_
  have e : ((x : Int) / 2 ^ r) = ((x / 2 ^ r : Nat) : Int) := by push_cast; rfl
  rw [e]
  exact hk _ ⟨rfl⟩ (Nat.div_le_self _ _)
theorem WrapN.u64e {n : Int} {k : Int → Prop} (hk : ∀ x : Nat, (x : Int) = n % 18446744073709551616 → k x) : WrapN .u64 n k :=
  WrapN.u64m (by rw [← Int.toNat_of_nonneg (show 0 ≤ n % 18446744073709551616 by omega)]; exact hk _ (Int.toNat_of_nonneg (by omega)))
theorem WrapN.u32e {n : Int} {k : Int → Prop} (hk : ∀ x : Nat, (x : Int) = n % 4294967296 → k x) : WrapN .u32 n k :=
  WrapN.u32m (by rw [← Int.toNat_of_nonneg (show 0 ≤ n % 4294967296 by omega)]; exact hk _ (Int.toNat_of_nonneg (by omega)))
theorem ShrN.e {kd : IntKind} {a : Int} {k : Int → Prop} (b : Nat) (hb : b ≤ kd.bits) (ha : 0 ≤ a) (hk : ∀ q : Nat, (q : Int) = a / 2 ^ b → k q) : ShrN kd a (b : Int) k := by
  refine ShrN.of b hb ha ?_
  have h : 0 ≤ a / 2 ^ b := Int.ediv_nonneg ha (Int.pow_nonneg (by omega))
  rw [← Int.toNat_of_nonneg h]; exact hk _ (Int.toNat_of_nonneg h)
/-- two parts of a word that do not meet -/
theorem BitN.orp {kd : IntKind} {x y : Int} {k : Int → Prop} (a b r : Nat) (ha : x = a) (hb : y = b) (hr : a < 2 ^ r) (h0 : b % 2 ^ r = 0) (ha' : a < 2 ^ kd.bits) (hb' : b < 2 ^ kd.bits) (hs : kd.signed = false) (hk : a + b < 2 ^ kd.bits → k ((a + b : Nat) : Int)) : BitN .or kd x y k := by
  refine BitN.or a b ha hb ha' hb' hs ?_
  rw [or_add hr h0]
  refine hk ?_
  rw [← or_add hr h0]; exact Nat.or_lt_two_pow ha' hb'
theorem BitN.orq {kd : IntKind} {x y : Int} {k : Int → Prop} (a b r : Nat) (ha : x = a) (hb : y = b) (hr : a < 2 ^ r) (h0 : b % 2 ^ r = 0) (ha' : a < 2 ^ kd.bits) (hb' : b < 2 ^ kd.bits) (hs : kd.signed = false) (hk : a + b < 2 ^ kd.bits → k ((a + b : Nat) : Int)) : BitN .or kd y x k := by
  refine BitN.or b a hb ha hb' ha' hs ?_
  rw [Nat.or_comm, or_add hr h0]
  refine hk ?_
  rw [← or_add hr h0]; exact Nat.or_lt_two_pow ha' hb'
end Go.Vc
namespace Go.Dig
theorem evl_drop {b : Nat} {l : List Nat} {k : Nat} (hk : k < l.length) : evl b (l.drop k) = l.getD k 0 + b * evl b (l.drop (k + 1)) := by
  rw [List.drop_eq_getElem_cons hk, evl_cons]; simp [List.getD_eq_getElem?_getD, hk]
theorem drop_set {l : List Nat} {k x : Nat} : (l.set k x).drop (k + 1) = l.drop (k + 1) := by
  apply List.ext_getElem?; intro i
  simp [List.getElem?_set]
  intro h; omega
theorem shl_low {x r : Nat} (hr : r ≤ 31) : x * 2 ^ r % 4294967296 % 2 ^ r = 0 := by
  rw [show (4294967296 : Nat) = 2 ^ r * 2 ^ (32 - r) by rw [← Nat.pow_add, show r + (32 - r) = 32 by omega], Nat.mod_mul_right_mod]
  exact Nat.mul_mod_left _ _
theorem shl_high {x r : Nat} (hx : x < 4294967296) : x * 2 ^ r / 4294967296 < 2 ^ r := by
  rw [Nat.div_lt_iff_lt_mul (by omega), Nat.mul_comm]
  exact Nat.mul_lt_mul_of_pos_left hx (Nat.two_pow_pos r)
/-- a digit of a number shifted right -/
theorem shr_digit {N k r : Nat} (hr : r ≤ 31) : (N / 4294967296 ^ k % 4294967296 + 4294967296 * (N / 4294967296 ^ (k + 1) % 4294967296)) / 2 ^ r % 4294967296 = N / 2 ^ r / 4294967296 ^ k % 4294967296 := by
  have e1 : N / 4294967296 ^ (k + 1) = N / 4294967296 ^ k / 4294967296 := by rw [Nat.pow_succ, Nat.div_div_eq_div_mul]
  rw [e1, show N / 2 ^ r / 4294967296 ^ k = N / 4294967296 ^ k / 2 ^ r by rw [Nat.div_div_eq_div_mul, Nat.mul_comm, ← Nat.div_div_eq_div_mul]]
  generalize N / 4294967296 ^ k = M
  rw [← Nat.mod_mul]
  have e2 : (4294967296 * 4294967296 : Nat) = 2 ^ r * (4294967296 * 2 ^ (32 - r)) := by
    rw [Nat.mul_left_comm, ← Nat.pow_add, show r + (32 - r) = 32 by omega]
  rw [e2, Nat.mod_mul_right_div_self, Nat.mod_mul_right_mod]
/-- the number itself, where no second word is there -/
theorem shr_digit' {N k r : Nat} (hr : r ≤ 31) (h : N / 4294967296 ^ (k + 1) = 0) : N / 4294967296 ^ k % 4294967296 / 2 ^ r % 4294967296 = N / 2 ^ r / 4294967296 ^ k % 4294967296 := by
  rw [← shr_digit hr, h]; rfl
theorem shl_step {b o o' X A s p w : Nat} (h : o = X * w) (hp : p = b) (he : o' = o + b * s) (hs : s = A * w) : o' = (X + p * A) * w := by
  subst h hp he hs; rw [Nat.add_mul, Nat.mul_assoc]
end Go.Dig
/- Contracts of package word's functions on natural numbers, fourth part: shifts, division by a word. -/
namespace Go.Proofs.YtdemgbmndijkkaaGreatDoor
open Go Go.Vc Go.Dig

set_option maxRecDepth 20000 in
set_option maxHeartbeats 2000000 in
theorem Shl_ct (h : Heap) (a : Sl) (m n : Nat) (ha : IsNat h a m) (la : ln 4294967296 m ≤ 17179869184) (hn : n ≤ 549755813888) :
    Fn0 T F.word_Nat_Shl [a.val, .int .i64 n] h fun v h' => ∃ s : Sl, v = s.val ∧ IsNat h' s (m * 2 ^ n) := by
  have hal := ha.len
  have hma := ln_eq_zero two_le_B (n := m)
  obtain ⟨r, hr⟩ : ∃ r, r = n % 32 := ⟨_, rfl⟩
  obtain ⟨q, hq⟩ : ∃ q, q = n / 32 := ⟨_, rfl⟩
  have hr31 : r ≤ 31 := by omega
  have hpow : Hq (2 ^ n = 2 ^ r * 4294967296 ^ q) := ⟨by
    rw [show (4294967296 : Nat) = 2 ^ 32 from rfl, ← Nat.pow_mul, ← Nat.pow_add]; congr 1; omega⟩
  refine fn0_of_codeI ok D.word_Nat_Shl rfl ?_
  conv => whnf
  repeat ((first | refine opsI.step ?_ | refine codeI.step ?_); conv => whnf)
  refine cnd_eq (fun h1 => ?_) (fun h1 => ?_)
  · conv => whnf
    repeat ((first | refine opsI.step ?_ | refine codeI.step ?_); conv => whnf)
    exact RetN.all ⟨⟨none, 0, 0⟩, rfl, by rw [hma.1 (by omega), Nat.zero_mul]; unfold IsNat; rw [dg_zero]; exact Ws.nil rfl⟩
  clear hma h1
  conv => whnf
  repeat ((first | refine opsI.step ?_ | refine codeI.step ?_); conv => whnf)
  repeat' first
   | (show QuoN _ _ _ _; first
     | (refine QuoN.i64 (by omega) (by omega) (by omega) ?_; conv => whnf))
   | (show RemN _ _ _; first
     | (refine RemN.nn (by omega) (by omega) ?_; conv => whnf))
   | (show Mk _ _ _; first
     | (refine Mk.of (ln 4294967296 m + q + 1) (by omega) (by omega) (by omega) ?_; conv => whnf))
   | (refine ⟨Nat.le_refl _, ?_⟩; conv => whnf)
   | ((first | refine opsI.step ?_ | refine codeI.step ?_); conv => whnf)
   | (intro (_ : Nat); conv => whnf)
   | (show WrapN _ _ _; first
     | (refine WrapN.i64 (by omega) (by omega) ?_; conv => whnf)
     | (refine WrapN.u64 (by omega) (by omega) ?_; conv => whnf))
  rename_i bo
  refine LoopN.of (fun d ρ h' L => ∃ (k : Nat) (o : List Nat), d = ln 4294967296 m - k ∧ h' = h ∧ L = [(bo, Row .u32 Ty.uint32 o)] ∧ rd ρ 27 = .int .i64 k ∧ k ≤ ln 4294967296 m ∧ o.length = ln 4294967296 m + q + 1 ∧ (∀ x ∈ o, x < 4294967296) ∧ Hq (∀ j, q + k < j → o.getD j 0 = 0) ∧ Hq (o.getD (q + k) 0 < 2 ^ r) ∧
      Hq (evl 4294967296 o = evl 4294967296 ((dg 4294967296 m).take k) * (2 ^ r * 4294967296 ^ q))) (ln 4294967296 m)
    ⟨0, List.replicate (ln 4294967296 m + q + 1) 0, rfl, rfl, by rw [row_new], rfl, by omega, by simp, by simp, ⟨fun j _ => getD_zeros _ _⟩, ⟨by rw [getD_zeros]; exact Nat.two_pow_pos r⟩, ⟨by rw [evl_zeros _ (by simp)]; simp [evl_nil]⟩⟩ ?_
  conv => whnf
  repeat intro _
  rename_i rr h2 L2 hI
  obtain ⟨k, o, rfl, rfl, rfl, e0, hk, hol, hoB, hoz, hot, heq⟩ := hI
  conv at e0 => lhs; whnf
  subst e0
  have hda := dg_getD_lt two_le_B m k
  have hdo := getD_lt (b := 4294967296) (by omega) hoB (q + k)
  conv => whnf
  repeat ((first | refine opsI.step ?_ | refine codeI.step ?_); conv => whnf)
  repeat' first
   | (show Idx _ _ _ _ _; first
     | (refine Idx.ws ha k (by omega) (by unfold ln at *; omega) (fun ad hv => ?_); conv => whnf)
     | (refine Idx.own (q + k) (by omega) (by omega) ?_; conv => whnf))
   | (show Ld _ _ _ _; first
     | (refine Ld.of (by first | exact hv _ | (rename_i hv; exact hv _)) ?_; conv => whnf)
     | (refine Ld.ws 0 rfl (by omega) ?_; conv => whnf))
   | (show ShlN _ _ _ _; first
     | (refine ShlN.u64p (r := r) rfl (by omega) hda hr31 (fun p hp hp' => ?_); conv => whnf))
   | (show WrapN _ _ _; first
     | (refine WrapN.u32m ?_; conv => whnf)
     | (refine WrapN.i64 (by omega) (by omega) ?_; conv => whnf)
     | (refine WrapN.u64 (by omega) (by omega) ?_; conv => whnf))
   | ((first | refine opsI.step ?_ | refine codeI.step ?_); conv => whnf)
   | (show cnd _ _ _; first
     | (refine cnd_lt (fun _ => ?_) (fun _ => ?_) <;> first | (exfalso; omega) | (conv => whnf)))
  · rename_i hv p hp hp'
    refine BitN.orp (o.getD (q + k) 0) (p % 4294967296) r rfl (by omega) hot.out (by rw [hp.out]; exact shl_low hr31) hdo (by show _ < 4294967296; omega) rfl (fun hlt => ?_)
    have hlt : o.getD (q + k) 0 + p % 4294967296 < 4294967296 := hlt
    conv => whnf
    repeat ((first | refine opsI.step ?_ | refine codeI.step ?_); conv => whnf)
    repeat' first
     | (show Idx _ _ _ _ _; first
       | (refine Idx.own (q + k) (by omega) (by omega) ?_; conv => whnf)
       | (refine Idx.own (q + k + 1) (by omega) (by simp; omega) ?_; conv => whnf))
     | (show Sto _ _ _ _; first
       | (refine Sto.ws (o := o) 0 rfl (o.getD (q + k) 0 + p % 4294967296) (by omega) (by omega) ?_; conv => whnf)
       | (refine Sto.ws 0 rfl (p / 4294967296) (by omega) (by simp; omega) ?_; conv => whnf))
     | (show ShrN _ _ _ _; first
       | (refine ShrN.of 32 (by decide) (by omega) ?_; conv => whnf))
     | (show WrapN _ _ _; first
       | (refine WrapN.u32m ?_; conv => whnf)
       | (refine WrapN.i64 (by omega) (by omega) ?_; conv => whnf))
     | ((first | refine opsI.step ?_ | refine codeI.step ?_); conv => whnf)
    refine ⟨rfl, ln 4294967296 m - (k + 1), by omega, k + 1, _, rfl, rfl, rfl, vi (by omega), by omega, by simp [hol], mem_set_lt (mem_set_lt hoB hlt) (by omega), ⟨fun j hj => ?_⟩, ⟨?_⟩, ⟨?_⟩⟩
    · rw [getD_set_other _ (by omega), getD_set_other _ (by omega)]; exact hoz.out j (by omega)
    · rw [show q + (k + 1) = q + k + 1 by omega, getD_set_self _ (by simp; omega), hp.out]; exact shl_high hda
    · have e1 := evl_set (b := 4294967296) (l := o) (k := q + k) (o.getD (q + k) 0 + p % 4294967296) (by omega)
      have e2 := evl_set (b := 4294967296) (l := o.set (q + k) (o.getD (q + k) 0 + p % 4294967296)) (k := q + k + 1) (p / 4294967296) (by simp; omega)
      rw [getD_set_other _ (by omega), hoz.out (q + k + 1) (by omega), Nat.mul_zero, Nat.add_zero] at e2
      rw [Nat.mul_add] at e1
      have e3 : 4294967296 ^ (q + k) * p = 4294967296 ^ (q + k) * (p % 4294967296) + 4294967296 ^ (q + k + 1) * (p / 4294967296) := by
        rw [Nat.pow_succ, Nat.mul_assoc, ← Nat.mul_add, Nat.mod_add_div]
      rw [e2, evl_take_next, Nat.add_mul, ← heq.out]
      have e4 : 4294967296 ^ k * (dg 4294967296 m).getD k 0 * (2 ^ r * 4294967296 ^ q) = 4294967296 ^ (q + k) * p := by
        rw [hp.out, Nat.pow_add]
        ac_rfl
      rw [e4]
      omega
  · obtain rfl : k = ln 4294967296 m := by omega
    refine CallN.keep 0 rfl rfl fun hle => ?_
    refine CallN.fn rfl (Of_ct _ ⟨some ⟨bo, 0, none⟩, ln 4294967296 m + q + 1, ln 4294967296 m + q + 1⟩ o (Ws.row (by simp [hol])) hoB (by omega)) (fun v h' hl hr => ?_)
    obtain ⟨s', rfl, hs⟩ := hr
    conv => whnf
    repeat ((first | refine opsI.step ?_ | refine codeI.step ?_); conv => whnf)
    refine RetN.all ⟨s', rfl, ?_⟩
    have heq := heq.out
    rw [evl_all two_le_B (Nat.le_refl _), ← hpow.out] at heq
    rwa [heq] at hs

set_option maxRecDepth 20000 in
set_option maxHeartbeats 2000000 in
theorem Shr_ct (h : Heap) (a : Sl) (m n : Nat) (ha : IsNat h a m) (la : ln 4294967296 m ≤ 17179869184) (hn : n ≤ 549755813888) :
    Fn0 T F.word_Nat_Shr [a.val, .int .i64 n] h fun v h' => ∃ s : Sl, v = s.val ∧ IsNat h' s (m / 2 ^ n) := by
  have hal := ha.len
  obtain ⟨r, hr⟩ : ∃ r, r = n % 32 := ⟨_, rfl⟩
  obtain ⟨q, hq⟩ : ∃ q, q = n / 32 := ⟨_, rfl⟩
  have hr31 : r ≤ 31 := by omega
  have hpow : Hq (2 ^ n = 2 ^ r * 4294967296 ^ q) := ⟨by
    rw [show (4294967296 : Nat) = 2 ^ 32 from rfl, ← Nat.pow_mul, ← Nat.pow_add]; congr 1; omega⟩
  have hdig : Hq (∀ i, m / 2 ^ r / 4294967296 ^ (q + i) % 4294967296 = (m / 4294967296 ^ (q + i) % 4294967296 + 4294967296 * (m / 4294967296 ^ (q + i + 1) % 4294967296)) / 2 ^ r % 4294967296) := ⟨fun i => (shr_digit hr31).symm⟩
  refine fn0_of_codeI ok D.word_Nat_Shr rfl ?_
  conv => whnf
  repeat ((first | refine opsI.step ?_ | refine codeI.step ?_); conv => whnf)
  repeat' first
   | (show QuoN _ _ _ _; first
     | (refine QuoN.i64 (by omega) (by omega) (by omega) ?_; conv => whnf))
   | (show RemN _ _ _; first
     | (refine RemN.nn (by omega) (by omega) ?_; conv => whnf))
   | (show Mk _ _ _; first
     | (refine Mk.of (ln 4294967296 m - q) (by omega) (by omega) (by omega) ?_; conv => whnf))
   | (refine ⟨Nat.le_refl _, ?_⟩; conv => whnf)
   | ((first | refine opsI.step ?_ | refine codeI.step ?_); conv => whnf)
   | (intro (_ : Nat); conv => whnf)
   | (show WrapN _ _ _; first
     | (refine WrapN.i64 (by omega) (by omega) ?_; conv => whnf)
     | (refine WrapN.u64 (by omega) (by omega) ?_; conv => whnf))
   | (show cnd _ _ _; first
     | (refine cnd_le (fun _ => ?_) (fun _ => ?_) <;> first | (exfalso; omega) | (conv => whnf)))
  · have : m < 4294967296 ^ q := (ln_le_iff two_le_B).1 (by omega)
    have h0 : m / 2 ^ n = 0 := by
      rw [hpow.out]
      refine Nat.div_eq_of_lt (Nat.lt_of_lt_of_le this (Nat.le_mul_of_pos_left _ (Nat.two_pow_pos r)))
    exact RetN.all ⟨⟨none, 0, 0⟩, rfl, by rw [h0]; unfold IsNat; rw [dg_zero]; exact Ws.nil rfl⟩
  rename_i bo
  refine LoopN.of (fun d ρ h' L => ∃ (k : Nat) (o : List Nat), d = ln 4294967296 m - q - k ∧ h' = h ∧ L = [(bo, Row .u32 Ty.uint32 o)] ∧ rd ρ 26 = .int .i64 k ∧ k ≤ ln 4294967296 m - q ∧ o.length = ln 4294967296 m - q ∧ (∀ x ∈ o, x < 4294967296) ∧ Hq (∀ j, j < k → o.getD j 0 = m / 2 ^ r / 4294967296 ^ (q + j) % 4294967296)) (ln 4294967296 m - q)
    ⟨0, List.replicate (ln 4294967296 m - q) 0, rfl, rfl, by rw [row_new], rfl, by omega, by simp, by simp, ⟨fun j hj => by omega⟩⟩ ?_
  conv => whnf
  repeat intro _
  rename_i rr h2 L2 hI
  obtain ⟨k, o, rfl, rfl, rfl, e0, hk, hol, hoB, heq⟩ := hI
  conv at e0 => lhs; whnf
  subst e0
  have hda := dg_getD_lt two_le_B m (q + k)
  have hdb := dg_getD_lt two_le_B m (q + k + 1)
  conv => whnf
  repeat ((first | refine opsI.step ?_ | refine codeI.step ?_); conv => whnf)
  repeat' first
   | (show SeqN _ _ _ _ _ _ _; first
     | (refine SeqN.go ?_; conv => whnf))
   | (show Idx _ _ _ _ _; first
     | (refine Idx.ws ha (q + k) (by omega) (by unfold ln at *; omega) (fun ad hv => ?_); conv => whnf)
     | (refine Idx.ws ha (q + k + 1) (by omega) (by unfold ln at *; omega) (fun ad hv => ?_); conv => whnf))
   | (show Ld _ _ _ _; first
     | (refine Ld.of (by first | exact hv _ | (rename_i hv; exact hv _)) ?_; conv => whnf))
   | (show ShlN _ _ _ _; first
     | (refine ShlN.mk' 32 (by decide) ?_; conv => whnf))
   | ((first | refine opsI.step ?_ | refine codeI.step ?_); conv => whnf)
   | (show WrapN _ _ _; first
     | (refine WrapN.i64 (by omega) (by omega) ?_; conv => whnf)
     | (refine WrapN.u64 (by omega) (by omega) ?_; conv => whnf))
   | (show cnd _ _ _; first
     | (refine cnd_lt (fun _ => ?_) (fun _ => ?_) <;> first | (exfalso; omega) | (conv => whnf)))
  · refine BitN.orp ((dg 4294967296 m).getD (q + k) 0) ((dg 4294967296 m).getD (q + k + 1) 0 * 4294967296) 32 rfl (wrap_nat (n := (dg 4294967296 m).getD (q + k + 1) 0 * 4294967296) rfl (by show _ < 2 ^ 64; omega)) hda (by show _ % 4294967296 = 0; omega) (by show _ < 2 ^ 64; omega) (by show _ < 2 ^ 64; omega) rfl (fun _ => ?_)
    conv => whnf
    repeat ((first | refine opsI.step ?_ | refine codeI.step ?_); conv => whnf)
    repeat' first
     | (show ShrN _ _ _ _; first
       | (refine ShrN.sym (r := r) rfl (by omega) (by show r ≤ 64; omega) (fun p hp hp' => ?_); conv => whnf))
     | (show WrapN _ _ _; first
       | (refine WrapN.u32m ?_; conv => whnf)
       | (refine WrapN.i64 (by omega) (by omega) ?_; conv => whnf))
     | (show Idx _ _ _ _ _; first
       | (refine Idx.own k (by omega) (by omega) ?_; conv => whnf))
     | (show Sto _ _ _ _; first
       | (rename_i p hp hp'; refine Sto.ws 0 rfl (p % 4294967296) (by omega) (by omega) ?_; conv => whnf))
     | ((first | refine opsI.step ?_ | refine codeI.step ?_); conv => whnf)
    rename_i p hp hp'
    refine ⟨rfl, ln 4294967296 m - q - (k + 1), by omega, k + 1, _, rfl, rfl, rfl, vi (by omega), by omega, by simp [hol], mem_set_lt hoB (Nat.mod_lt _ (by omega)), ⟨fun j hj => ?_⟩⟩
    by_cases hjk : j = k
    · subst hjk
      rw [getD_set_self _ (by omega), hdig.out, ← dg_getD two_le_B, ← dg_getD two_le_B, hp.out, Nat.mul_comm (4294967296)]
    · rw [getD_set_other _ (by omega)]; exact heq.out j (by omega)
  · have hz : (dg 4294967296 m).getD (q + k + 1) 0 = 0 := getD_out (by unfold ln at *; omega)
    repeat' first
     | (show ShrN _ _ _ _; first
       | (refine ShrN.sym (r := r) rfl (by omega) (by show r ≤ 64; omega) (fun p hp hp' => ?_); conv => whnf))
     | (show WrapN _ _ _; first
       | (refine WrapN.u32m ?_; conv => whnf)
       | (refine WrapN.i64 (by omega) (by omega) ?_; conv => whnf))
     | (show Idx _ _ _ _ _; first
       | (refine Idx.own k (by omega) (by omega) ?_; conv => whnf))
     | (show Sto _ _ _ _; first
       | (rename_i p hp hp'; refine Sto.ws 0 rfl (p % 4294967296) (by omega) (by omega) ?_; conv => whnf))
     | ((first | refine opsI.step ?_ | refine codeI.step ?_); conv => whnf)
    rename_i p hp hp'
    refine ⟨rfl, ln 4294967296 m - q - (k + 1), by omega, k + 1, _, rfl, rfl, rfl, vi (by omega), by omega, by simp [hol], mem_set_lt hoB (Nat.mod_lt _ (by omega)), ⟨fun j hj => ?_⟩⟩
    by_cases hjk : j = k
    · subst hjk
      rw [getD_set_self _ (by omega), hdig.out, ← dg_getD two_le_B, ← dg_getD two_le_B, hp.out, hz]; simp
    · rw [getD_set_other _ (by omega)]; exact heq.out j (by omega)
  · obtain rfl : k = ln 4294967296 m - q := by omega
    refine CallN.keep 0 rfl rfl fun hle => ?_
    refine CallN.fn rfl (Of_ct _ ⟨some ⟨bo, 0, none⟩, ln 4294967296 m - q, ln 4294967296 m - q⟩ o (Ws.row (by simp [hol])) hoB (by omega)) (fun v h' hl hr => ?_)
    obtain ⟨s', rfl, hs⟩ := hr
    conv => whnf
    repeat ((first | refine opsI.step ?_ | refine codeI.step ?_); conv => whnf)
    refine RetN.all ⟨s', rfl, ?_⟩
    have e := evl_digits (b := 4294967296) two_le_B (N := m / 2 ^ r) (l := o) (s := q) (fun i hi => heq.out i (by omega))
    have e2 : m / 2 ^ r / 4294967296 ^ q = m / 2 ^ n := by rw [Nat.div_div_eq_div_mul, ← hpow.out]
    have e3 : m / 2 ^ n < 4294967296 ^ o.length := by
      rw [hol, ← e2]
      have h1 : m < 4294967296 ^ (ln 4294967296 m - q + q) := by rw [show ln 4294967296 m - q + q = ln 4294967296 m by omega]; exact lt_pow_ln two_le_B m
      rw [Nat.pow_add, Nat.mul_comm] at h1
      exact Nat.lt_of_le_of_lt (Nat.div_le_div_right (Nat.div_le_self _ _)) (Nat.div_lt_of_lt_mul h1)
    rw [e2, Nat.mod_eq_of_lt e3] at e
    rwa [e] at hs

set_option maxRecDepth 20000 in
set_option maxHeartbeats 2000000 in
theorem DivSmall_ct (h : Heap) (a : Sl) (m d : Nat) (ha : IsNat h a m) (la : ln 4294967296 m ≤ 17179869184) (hd : d < 4294967296) (h0 : 0 < d) :
    Fn0 T F.word_Nat_DivSmall [a.val, .int .u32 d] h fun v h' => ∃ s : Sl, v = .tuple #[s.val, .int .u32 (m % d : Nat)] ∧ IsNat h' s (m / d) := by
  have hal := ha.len
  refine fn0_of_codeI ok D.word_Nat_DivSmall rfl ?_
  conv => whnf
  repeat ((first | refine opsI.step ?_ | refine codeI.step ?_); conv => whnf)
  repeat' first
   | (show Mk _ _ _; first
     | (refine Mk.of (ln 4294967296 m) (by omega) (by omega) (by omega) ?_; conv => whnf))
   | (refine ⟨Nat.le_refl _, ?_⟩; conv => whnf)
   | ((first | refine opsI.step ?_ | refine codeI.step ?_); conv => whnf)
   | (intro (_ : Nat); conv => whnf)
   | (show WrapN _ _ _; first
     | (refine WrapN.i64 (by omega) (by omega) ?_; conv => whnf))
  rename_i bo
  refine LoopN.of (fun r ρ h' L => ∃ (k : Nat) (o : List Nat) (c : Nat), r = k ∧ h' = h ∧ L = [(bo, Row .u32 Ty.uint32 o)] ∧ rd ρ 8 = .int .i64 ((k : Int) - 1) ∧ rd ρ 7 = .int .u64 c ∧ k ≤ ln 4294967296 m ∧ o.length = ln 4294967296 m ∧ (∀ x ∈ o, x < 4294967296) ∧ c < d ∧
      Hq (evl 4294967296 ((dg 4294967296 m).drop k) = evl 4294967296 (o.drop k) * d + c)) (ln 4294967296 m)
    ⟨ln 4294967296 m, List.replicate (ln 4294967296 m) 0, 0, rfl, rfl, by rw [row_new], vi (by omega), rfl, by omega, by simp, by simp, by omega, ⟨by rw [List.drop_eq_nil_of_le (by unfold ln; omega), List.drop_eq_nil_of_le (by simp)]; simp [evl_nil]⟩⟩ ?_
  conv => whnf
  repeat intro _
  rename_i k h2 L2 hI
  obtain ⟨_, o, c, rfl, rfl, rfl, e0, e1, hk, hol, hoB, hc, heq⟩ := hI
  conv at e0 => lhs; whnf
  subst e0
  conv at e1 => lhs; whnf
  subst e1
  have hda := dg_getD_lt two_le_B m (k - 1)
  conv => whnf
  repeat ((first | refine opsI.step ?_ | refine codeI.step ?_); conv => whnf)
  repeat' first
   | (show ShlN _ _ _ _; first
     | (refine ShlN.mk' 32 (by decide) ?_; conv => whnf))
   | (show Idx _ _ _ _ _; first
     | (refine Idx.ws ha (k - 1) (by omega) (by unfold ln at *; omega) (fun ad hv => ?_); conv => whnf))
   | (show Ld _ _ _ _; first
     | (refine Ld.of (by first | exact hv _ | (rename_i hv; exact hv _)) ?_; conv => whnf))
   | ((first | refine opsI.step ?_ | refine codeI.step ?_); conv => whnf)
   | (show cnd _ _ _; first
     | (refine cnd_le (fun _ => ?_) (fun _ => ?_) <;> first | (exfalso; omega) | (conv => whnf)))
   | (show WrapN _ _ _; first
     | (refine WrapN.u64 (by omega) (by omega) ?_; conv => whnf))
  · refine BitN.orq ((dg 4294967296 m).getD (k - 1) 0) (c * 4294967296) 32 (by omega) (wrap_nat (n := c * 4294967296) rfl (by show _ < 2 ^ 64; omega)) hda (by show _ % 4294967296 = 0; omega) (by show _ < 2 ^ 64; omega) (by show _ < 2 ^ 64; omega) rfl (fun hlt => ?_)
    obtain ⟨s, hs⟩ : ∃ s, s = (dg 4294967296 m).getD (k - 1) 0 + c * 4294967296 := ⟨_, rfl⟩
    have hlt : (dg 4294967296 m).getD (k - 1) 0 + c * 4294967296 < 18446744073709551616 := hlt
    rw [← hs]
    have hq : Hq (s / d < 4294967296) := ⟨by
      rw [Nat.div_lt_iff_lt_mul h0]
      have : (c + 1) * 4294967296 ≤ d * 4294967296 := Nat.mul_le_mul_right _ hc
      omega⟩
    obtain ⟨q, hqd⟩ : ∃ q, q = s / d := ⟨_, rfl⟩
    obtain ⟨z, hzd⟩ : ∃ z, z = s % d := ⟨_, rfl⟩
    have hz : z < d := by rw [hzd]; exact Nat.mod_lt _ h0
    have hqz : Hq (s = q * d + z) := ⟨by rw [hqd, hzd, Nat.mul_comm, Nat.div_add_mod]⟩
    have hqB := hq.out
    rw [← hqd] at hqB
    have eq1 : ((s : Int) / (d : Int)) = (q : Int) := by rw [hqd]; rfl
    have eq2 : ((s : Int) % (d : Int)) = (z : Int) := by rw [hzd]; rfl
    replace hqd := Hq.mk hqd
    replace hzd := Hq.mk hzd
    conv => whnf
    repeat ((first | refine opsI.step ?_ | refine codeI.step ?_); conv => whnf)
    repeat' first
     | (show WrapN _ _ _; first
       | (refine WrapN.u64m ?_; rw [Int.emod_eq_of_lt (by omega) (by omega)]; conv => whnf)
       | (refine WrapN.i64 (by omega) (by omega) ?_; conv => whnf)
       | (refine WrapN.u32 (by omega) (by omega) ?_; conv => whnf))
     | (show QuoN _ _ _ _; first
       | (refine QuoN.u64 (by omega) (by omega) (by omega) ?_; rw [eq1]; conv => whnf))
     | (show RemN _ _ _; first
       | (refine RemN.nn (by omega) (by omega) ?_; rw [eq2]; conv => whnf))
     | (show Idx _ _ _ _ _; first
       | (refine Idx.own (k - 1) (by omega) (by omega) ?_; conv => whnf))
     | (show Sto _ _ _ _; first
       | (refine Sto.ws 0 rfl q (by omega) (by omega) ?_; conv => whnf))
     | ((first | refine opsI.step ?_ | refine codeI.step ?_); conv => whnf)
    obtain ⟨k, rfl⟩ : ∃ k', k = k' + 1 := ⟨k - 1, by omega⟩
    have hs : s = (dg 4294967296 m).getD k 0 + c * 4294967296 := hs
    have heq : evl 4294967296 ((dg 4294967296 m).drop (k + 1)) = evl 4294967296 (o.drop (k + 1)) * d + c := heq.out
    refine ⟨rfl, k, by omega, k, _, z, rfl, rfl, rfl, vi (by omega), vi (by omega), by omega, by simp [hol], mem_set_lt hoB hqB, hz, ⟨?_⟩⟩
    show evl 4294967296 ((dg 4294967296 m).drop k) = evl 4294967296 ((o.set k q).drop k) * d + z
    rw [evl_drop (k := k) (l := dg 4294967296 m) (by unfold ln at *; omega), evl_drop (k := k) (l := o.set k q) (by simp; omega), getD_set_self _ (by omega), drop_set, heq, Nat.add_mul, Nat.mul_assoc, Nat.mul_add]
    have := hqz.out
    omega
  · obtain rfl : k = 0 := by omega
    refine CallN.keep 0 rfl rfl fun hle => ?_
    refine CallN.fn rfl (Of_ct _ ⟨some ⟨bo, 0, none⟩, ln 4294967296 m, ln 4294967296 m⟩ o (Ws.row (by simp [hol])) hoB (by omega)) (fun v h' hl hr => ?_)
    obtain ⟨s', rfl, hs⟩ := hr
    conv => whnf
    repeat ((first | refine opsI.step ?_ | refine codeI.step ?_); conv => whnf)
    repeat' first
     | ((first | refine opsI.step ?_ | refine codeI.step ?_); conv => whnf)
     | (show WrapN _ _ _; first
       | (refine WrapN.u32 (by omega) (by omega) ?_; conv => whnf))
    have heq := heq.out
    rw [List.drop_zero, List.drop_zero, evl_dg two_le_B] at heq
    have e1 : m / d = evl 4294967296 o := by rw [heq, Nat.add_comm, Nat.add_mul_div_right _ _ h0, Nat.div_eq_of_lt hc, Nat.zero_add]
    have e2 : m % d = c := by rw [heq, Nat.mul_comm, Nat.mul_add_mod, Nat.mod_eq_of_lt hc]
    refine RetN.all ⟨s', by rw [e2], ?_⟩
    rwa [e1]
end Go.Proofs.YtdemgbmndijkkaaGreatDoor