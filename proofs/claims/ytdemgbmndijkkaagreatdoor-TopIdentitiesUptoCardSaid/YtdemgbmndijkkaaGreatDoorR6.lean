/- Contracts of the reference's functions on natural numbers (digits to the base 65536), first part. -/
import Derived.Test.YtdemgbmndijkkaaGreatDoorW2
import Derived.Test.YtdemgbmndijkkaaGreatDoorRepA
import Derived.Test.YtdemgbmndijkkaaGreatDoorDig
import Derived.Test.YtdemgbmndijkkaaGreatDoorW6
import Derived.Test.YtdemgbmndijkkaaGreatDoorW4
import Derived.Test.YtdemgbmndijkkaaGreatDoorRep3
set_option linter.unusedVariables false
set_option linter.unusedSimpArgs false
namespace Go.Dig
theorem evl_snoc {b : Nat} (l : List Nat) (x : Nat) : evl b (l ++ [x]) = evl b l + b ^ l.length * x := by
  rw [evl_append, evl_cons, evl_nil]; simp
theorem mem_snoc {b x : Nat} {l : List Nat} (h : ∀ y ∈ l, y < b) (hx : x < b) : ∀ y ∈ l ++ [x], y < b := fun y hy => by
  rcases List.mem_append.1 hy with hy | hy
  · exact h y hy
  · simp at hy; omega
theorem addp_step {b : Nat} {da db xs : List Nat} {k c s : Nat} (hk : xs.length = k) (hs : s = da.getD k 0 + c + db.getD k 0) (h : evl b xs + c * b ^ k = evl b (da.take k) + evl b (db.take k)) :
    evl b (xs ++ [s % b]) + s / b * b ^ (k + 1) = evl b (da.take (k + 1)) + evl b (db.take (k + 1)) := by
  rw [evl_snoc, evl_take_next da, evl_take_next db, hk]
  have h3 : b ^ k * (s % b) + s / b * b ^ (k + 1) = b ^ k * s := by
    rw [Nat.pow_succ, Nat.mul_comm (s / b), Nat.mul_assoc, ← Nat.mul_add, Nat.mod_add_div]
  have h4 : b ^ k * s = b ^ k * da.getD k 0 + c * b ^ k + b ^ k * db.getD k 0 := by rw [hs, Nat.mul_add, Nat.mul_add, Nat.mul_comm c]
  omega
theorem subp_step {b : Nat} {da db xs : List Nat} {k c c' r : Nat} (hk : xs.length = k) (hr : r + db.getD k 0 + c = da.getD k 0 + c' * b) (h : evl b xs + evl b (db.take k) = evl b (da.take k) + c * b ^ k) :
    evl b (xs ++ [r]) + evl b (db.take (k + 1)) = evl b (da.take (k + 1)) + c' * b ^ (k + 1) := by
  rw [evl_snoc, evl_take_next da, evl_take_next db, hk]
  have h4 := congrArg (b ^ k * ·) hr
  simp only [Nat.mul_add] at h4
  have h5 : b ^ k * (c' * b) = c' * b ^ (k + 1) := by rw [Nat.pow_succ, Nat.mul_left_comm]
  have h6 : b ^ k * c = c * b ^ k := Nat.mul_comm _ _
  omega
end Go.Dig
namespace Go.Proofs.YtdemgbmndijkkaaGreatDoor
open Go Go.Vc Go.Dig
theorem two_le_b : 2 ≤ 65536 := by decide

theorem WrapN.mul16 {x y : Nat} {k : Int → Prop} (hx : x < 65536) (hy : y < 65536) (hk : ∀ p : Nat, Hq (p = x * y) → p ≤ 4294836225 → k p) : WrapN .u64 ((x : Int) * (y : Int)) k := by
  have h : x * y ≤ 65535 * 65535 := Nat.mul_le_mul (by omega) (by omega)
  have e : ((x * y : Nat) : Int) = (x : Int) * (y : Int) := by push_cast; rfl
  rw [← e]
  exact WrapN.u64 (Int.natCast_nonneg _) (by omega) (hk (x * y) ⟨rfl⟩ (by omega))
theorem trim_q (h : Heap) (s : Sl) (l : List Nat) (hw : Ws .u32 h s l) (hl : ∀ x ∈ l, x < 65536) (hm : l.length ≤ 4398046511104) :
    Fn0 T F.ref01_trim [s.val] h fun v h' => h' = h ∧ v = .slice s.a (ln 65536 (evl 65536 l)) s.c := by
  refine fn0_of_codeI ok D.ref01_trim rfl ?_
  have hlen := hw.len
  have hcap := hw.cap
  conv => whnf
  repeat ((first | refine opsI.step ?_ | refine codeI.step ?_); conv => whnf)
  skip
  refine LoopN.of (fun n ρ h' L => L = [] ∧ h' = h ∧ rd ρ 3 = .int .i64 n ∧ n ≤ l.length ∧ ∀ i, n ≤ i → i < l.length → l.getD i 0 = 0) l.length ⟨rfl, rfl, vi (by omega), Nat.le_refl _, fun i h1 h2 => by omega⟩ ?_
  conv => whnf
  repeat intro _
  rename_i n h1 L1 hI
  obtain ⟨rfl, rfl, e0, hk, hz⟩ := hI
  conv at e0 => lhs; whnf
  subst e0
  have fin : (n = 0 ∨ l.getD (n - 1) 0 ≠ 0) → ln 65536 (evl 65536 l) = n := fun he => by
    unfold ln
    rw [dg_take two_le_b hk hl hz he]; simp; omega
  conv => whnf
  repeat ((first | refine opsI.step ?_ | refine codeI.step ?_); conv => whnf)
  repeat' first
   | (show Idx _ _ _ _ _; first
     | (refine Idx.ws hw (n - 1) (by omega) (by omega) (fun ad hv => ?_); conv => whnf))
   | (show Ld _ _ _ _; first
     | (refine Ld.of (hv _) ?_; conv => whnf))
   | (show CutA _ _ _ _ _ _; first
     | (refine CutA.front (s := s) n (by omega) (by omega) ?_; conv => whnf))
   | ((first | refine opsI.step ?_ | refine codeI.step ?_); conv => whnf)
   | (show WrapN _ _ _; first
     | (refine WrapN.i64 (by omega) (by omega) ?_; conv => whnf))
   | (show cnd _ _ _; first
     | (refine cnd_lt (fun _ => ?_) (fun _ => ?_) <;> first | (exfalso; omega) | (conv => whnf))
     | (refine cnd_eq (fun _ => ?_) (fun _ => ?_) <;> first | (exfalso; omega) | (conv => whnf)))
  · refine ⟨rfl, n - 1, by omega, rfl, rfl, vi (by omega), by omega, fun i h1 h2 => ?_⟩
    by_cases hi : n ≤ i
    · exact hz i hi h2
    · obtain rfl : i = n - 1 := by omega
      omega
  · exact RetN.all ⟨rfl, by rw [fin (.inr (by omega))]⟩
  · exact RetN.all ⟨rfl, by rw [fin (.inl (by omega))]⟩
theorem trim_take {l : List Nat} (hl : ∀ x ∈ l, x < 65536) : ln 65536 (evl 65536 l) ≤ l.length ∧ dg 65536 (evl 65536 l) = l.take (ln 65536 (evl 65536 l)) := by
  have h1 : ln 65536 (evl 65536 l) ≤ l.length := (ln_le_iff two_le_b).2 (evl_lt two_le_b hl)
  refine ⟨h1, ?_⟩
  apply List.ext_getElem
  · simp; unfold ln at *; omega
  · intro i a1 a2
    have e1 := dg_getD two_le_b i (evl 65536 l)
    simp [List.getD_eq_getElem?_getD, a1] at e1
    rw [e1]
    have a3 : i < l.length := by simp at a2; omega
    have e2 := evl_div two_le_b hl i
    rw [List.getElem_take, ← e2, List.drop_eq_getElem_cons a3, evl_cons, Nat.add_mul_mod_self_left, Nat.mod_eq_of_lt (hl _ (List.getElem_mem a3))]
theorem trim_ct (h : Heap) (s : Sl) (l : List Nat) (hw : Ws .u32 h s l) (hl : ∀ x ∈ l, x < 65536) (hm : l.length ≤ 4398046511104) :
    Fn0 T F.ref01_trim [s.val] h fun v h' => ∃ s' : Sl, v = s'.val ∧ IsRef h' s' (evl 65536 l) :=
  (trim_q h s l hw hl hm).mono fun v h' _ ⟨e1, e2⟩ => ⟨⟨s.a, ln 65536 (evl 65536 l), s.c⟩, e2, by
    rw [e1]; unfold IsRef; rw [(trim_take hl).2]; exact hw.take (trim_take hl).1⟩

theorem NatOf_ct (h : Heap) (n : Nat) (hn : n < 18446744073709551616) : Fn0 T F.ref01_NatOf [.int .u64 n] h fun v h' => ∃ s' : Sl, v = s'.val ∧ IsRef h' s' n := by
  have hln : ln 65536 n ≤ 4 := (ln_le_iff two_le_b).2 (by omega)
  refine fn0_of_codeI ok D.ref01_NatOf rfl ?_
  conv => whnf
  repeat ((first | refine opsI.step ?_ | refine codeI.step ?_); conv => whnf)
  skip
  refine LoopN.of (fun r ρ h' L => ∃ (v : Value) (xs : List Nat), h' = h ∧ rd ρ 0 = .int .u64 r ∧ rd ρ 3 = v ∧ GrowS Ty.uint32 1 v xs.length (xs.map (vu .u32)) L ∧ dg 65536 n = xs ++ dg 65536 r) n
    ⟨_, [], rfl, rfl, rfl, GrowS.none, rfl⟩ ?_
  conv => whnf
  repeat intro _
  rename_i r h1 L1 hI
  obtain ⟨v, xs, rfl, e0, e1, g, hd⟩ := hI
  conv at e0 => lhs; whnf
  subst e0
  conv at e1 => lhs; whnf
  subst e1
  have hlen := congrArg List.length hd
  rw [List.length_append] at hlen
  have hr : r < 18446744073709551616 := by
    have e := evl_dg two_le_b n
    rw [hd, evl_append, evl_dg two_le_b] at e
    have : 1 * r ≤ 65536 ^ xs.length * r := Nat.mul_le_mul_right _ (Nat.pow_pos (by decide))
    omega
  conv => whnf
  repeat ((first | refine opsI.step ?_ | refine codeI.step ?_); conv => whnf)
  repeat' first
   | (show RemN _ _ _; first
     | (refine RemN.nn (by omega) (by omega) ?_; conv => whnf))
   | (show QuoN _ _ _ _; first
     | (refine QuoN.u64 (by omega) (by omega) (by omega) ?_; conv => whnf))
   | (show App _ _ _ _ _ _ _ _ _; first
     | (refine App.push rfl g (r % 65536) (by omega) (by unfold ln at hln; omega) (by decide) (fun v' L' g' => ?_); conv => whnf))
   | ((first | refine opsI.step ?_ | refine codeI.step ?_); conv => whnf)
   | (intro (_ : Nat); conv => whnf)
   | (show cnd _ _ _; first
     | (refine cnd_lt (fun _ => ?_) (fun _ => ?_) <;> first | (exfalso; omega) | (conv => whnf)))
   | (show WrapN _ _ _; first
     | (refine WrapN.u32 (by omega) (by omega) ?_; conv => whnf))
  · rename_i g'
    refine ⟨rfl, r / 65536, by omega, _, xs ++ [r % 65536], rfl, vi (by omega), rfl, by rw [List.length_append]; exact g', ?_⟩
    rw [hd, dg_pos two_le_b (by omega), List.append_assoc]; rfl
  · obtain rfl : r = 0 := by omega
    rw [dg_zero, List.append_nil] at hd
    exact RetN.grow g fun h' s hle hv w => ⟨s, hv, by unfold IsRef; rw [hd]; exact w⟩

theorem NatCmp_ct (h : Heap) (a b : Sl) (m n : Nat) (ha : IsRef h a m) (hb : IsRef h b n) (la : ln 65536 m ≤ 1099511627776) (lb : ln 65536 n ≤ 1099511627776) :
    Fn0 T F.ref01_NatCmp [a.val, b.val] h fun v h' => h' = h ∧ v = .int .i64 (cmpI m n) := by
  have hal := ha.len
  have hbl := hb.len
  refine fn0_of_codeI ok D.ref01_NatCmp rfl ?_
  conv => whnf
  repeat ((first | refine opsI.step ?_ | refine codeI.step ?_); conv => whnf)
  have n1 : ln 65536 m < ln 65536 n → cmpI m n = -1 := fun hx => by have := lt_of_ln two_le_b hx; simp [cmpI, this]
  have n2 : ln 65536 n < ln 65536 m → cmpI m n = 1 := fun hx => by have := lt_of_ln two_le_b hx; simp [cmpI, show ¬ m < n by omega, show m ≠ n by omega]
  repeat' first
   | ((first | refine opsI.step ?_ | refine codeI.step ?_); conv => whnf)
   | (show WrapN _ _ _; first
     | (refine WrapN.i64 (by omega) (by omega) ?_; conv => whnf))
   | (show cnd _ _ _; first
     | (refine cnd_lt (fun _ => ?_) (fun _ => ?_) <;> first | (exfalso; omega) | (conv => whnf))
     | (refine cnd_eq (fun _ => ?_) (fun _ => ?_) <;> first | (exfalso; omega) | (conv => whnf))
     | (refine cnd_not ?_))
  · refine LoopN.of (fun k ρ h' L => h' = h ∧ L = [] ∧ rd ρ 5 = .int .i64 ((k : Int) - 1) ∧ k ≤ ln 65536 m ∧ ∀ j, k ≤ j → (dg 65536 m).getD j 0 = (dg 65536 n).getD j 0) (ln 65536 m) ⟨rfl, rfl, vi (by omega), Nat.le_refl _, fun j hj => by rw [getD_out hj, getD_out (by unfold ln at *; omega)]⟩ ?_
    conv => whnf
    repeat intro _
    rename_i k h1 L1 hI
    obtain ⟨rfl, rfl, e0, hk, hz⟩ := hI
    conv at e0 => lhs; whnf
    subst e0
    have hda := dg_getD_lt two_le_b m (k - 1)
    have hdb := dg_getD_lt two_le_b n (k - 1)
    conv => whnf
    repeat ((first | refine opsI.step ?_ | refine codeI.step ?_); conv => whnf)
    repeat' first
     | (show Idx _ _ _ _ _; first
       | (refine Idx.ws ha (k - 1) (by omega) (by unfold ln at *; omega) (fun ad hv => ?_); conv => whnf)
       | (refine Idx.ws hb (k - 1) (by omega) (by unfold ln at *; omega) (fun ad hv => ?_); conv => whnf))
     | (show Ld _ _ _ _; first
       | (refine Ld.of (by first | exact hv _ | (rename_i hv; exact hv _)) ?_; conv => whnf))
     | ((first | refine opsI.step ?_ | refine codeI.step ?_); conv => whnf)
     | (show WrapN _ _ _; first
       | (refine WrapN.i64 (by omega) (by omega) ?_; conv => whnf))
     | (show cnd _ _ _; first
       | (refine cnd_lt (fun _ => ?_) (fun _ => ?_) <;> first | (exfalso; omega) | (conv => whnf))
       | (refine cnd_le (fun _ => ?_) (fun _ => ?_) <;> first | (exfalso; omega) | (conv => whnf)))
     | (show DrawN _ _ _ _ _ _; first
       | (refine DrawN.run (by decide +kernel) ?_; conv => whnf))
    · exact RetN.all ⟨rfl, vi (by have := cmp_at two_le_b (l := dg 65536 m) (m := dg 65536 n) (k := k - 1) (by unfold ln at *; omega) (dg_lt two_le_b m) (by unfold ln at *; omega) (fun j hj => hz j (by omega)) (by omega); rw [evl_dg two_le_b, evl_dg two_le_b] at this; simp [cmpI, this])⟩
    · exact RetN.all ⟨rfl, vi (by have := cmp_at two_le_b (l := dg 65536 n) (m := dg 65536 m) (k := k - 1) (by unfold ln at *; omega) (dg_lt two_le_b n) (by unfold ln at *; omega) (fun j hj => (hz j (by omega)).symm) (by omega); rw [evl_dg two_le_b, evl_dg two_le_b] at this; simp [cmpI, show ¬ m < n by omega, show m ≠ n by omega])⟩
    · refine ⟨rfl, k - 1, by omega, rfl, rfl, vi (by omega), by omega, fun j hj => ?_⟩
      by_cases hjk : k ≤ j
      · exact hz j hjk
      · obtain rfl : j = k - 1 := by omega
        omega
    · exact RetN.all ⟨rfl, vi (by have := dg_inj two_le_b (eq_of_getD (l := dg 65536 m) (m := dg 65536 n) (by unfold ln at *; omega) (fun j => hz j (by omega))); subst this; simp [cmpI])⟩
  · exact RetN.all ⟨rfl, vi (n1 (by omega)).symm⟩
  · exact RetN.all ⟨rfl, vi (n2 (by omega)).symm⟩

set_option maxRecDepth 20000 in
set_option maxHeartbeats 2000000 in
theorem NatMul_ct (h : Heap) (a b : Sl) (m n : Nat) (ha : IsRef h a m) (hb : IsRef h b n) (la : ln 65536 m ≤ 17179869184) (lb : ln 65536 n ≤ 17179869184) :
    Fn0 T F.ref01_NatMul [a.val, b.val] h fun v h' => ∃ s : Sl, v = s.val ∧ IsRef h' s (m * n) := by
  have hal := ha.len
  have hbl := hb.len
  have hma := ln_eq_zero two_le_b (n := m)
  have hmb := ln_eq_zero two_le_b (n := n)
  have nil : m * n = 0 → ∃ s : Sl, Value.slice none 0 0 = s.val ∧ IsRef h s (m * n) := fun hx => ⟨⟨none, 0, 0⟩, rfl, by rw [hx]; unfold IsRef; rw [dg_zero]; exact Ws.nil rfl⟩
  refine fn0_of_codeI ok D.ref01_NatMul rfl ?_
  conv => whnf
  repeat ((first | refine opsI.step ?_ | refine codeI.step ?_); conv => whnf)
  repeat' first
   | (show Mk _ _ _; first
     | (refine Mk.of (ln 65536 m + ln 65536 n) (by omega) (by omega) (by omega) ?_; conv => whnf))
   | (refine ⟨Nat.le_refl _, ?_⟩; conv => whnf)
   | ((first | refine opsI.step ?_ | refine codeI.step ?_); conv => whnf)
   | (intro (_ : Nat); conv => whnf)
   | (show WrapN _ _ _; first
     | (refine WrapN.i64 (by omega) (by omega) ?_; conv => whnf))
   | (show cnd _ _ _; first
     | (refine cnd_eq (fun _ => ?_) (fun _ => ?_) <;> first | (exfalso; omega) | (conv => whnf)))
  · exact RetN.all (nil (by rw [hma.1 (by omega)]; simp))
  · exact RetN.all (nil (by rw [hmb.1 (by omega)]; simp))
  rename_i h1 h2 bo
  clear hma hmb nil h1 h2
  refine LoopN.of (fun r ρ h' L => ∃ (k : Nat) (o : List Nat), r = ln 65536 m - k ∧ h' = h ∧ L = [(bo, Row .u32 Ty.uint32 o)] ∧ rd ρ 28 = .int .i64 k ∧ k ≤ ln 65536 m ∧ o.length = ln 65536 m + ln 65536 n ∧ (∀ x ∈ o, x < 65536) ∧ (∀ j, k + ln 65536 n ≤ j → o.getD j 0 = 0) ∧
      Hq (evl 65536 o = evl 65536 ((dg 65536 m).take k) * n)) (ln 65536 m)
    ⟨0, List.replicate (ln 65536 m + ln 65536 n) 0, rfl, rfl, by rw [row_new], rfl, by omega, by simp, by simp, fun j _ => getD_zeros _ _, ⟨by rw [evl_zeros _ (by simp)]; simp [evl_nil]⟩⟩ ?_
  conv => whnf
  repeat intro _
  rename_i r h2 L2 hI
  obtain ⟨k, o, rfl, rfl, rfl, e0, hk, hol, hoB, hoz, heq⟩ := hI
  conv at e0 => lhs; whnf
  subst e0
  have hda := dg_getD_lt two_le_b m k
  conv => whnf
  repeat ((first | refine opsI.step ?_ | refine codeI.step ?_); conv => whnf)
  repeat' first
   | (show Idx _ _ _ _ _; first
     | (refine Idx.ws ha k (by omega) (by unfold ln at *; omega) (fun ad hv => ?_); conv => whnf))
   | (show Ld _ _ _ _; first
     | (refine Ld.of (by first | exact hv _ | (rename_i hv; exact hv _)) ?_; conv => whnf))
   | ((first | refine opsI.step ?_ | refine codeI.step ?_); conv => whnf)
   | (show cnd _ _ _; first
     | (refine cnd_lt (fun _ => ?_) (fun _ => ?_) <;> first | (exfalso; omega) | (conv => whnf)))
  · refine LoopN.of (fun r ρ h' L => ∃ (j : Nat) (o : List Nat) (c : Nat), r = ln 65536 n - j ∧ h' = h2 ∧ L = [(bo, Row .u32 Ty.uint32 o)] ∧ rd ρ 35 = .int .i64 j ∧ rd ρ 8 = .int .u64 c ∧ j ≤ ln 65536 n ∧ o.length = ln 65536 m + ln 65536 n ∧ (∀ x ∈ o, x < 65536) ∧ (∀ i, k + ln 65536 n ≤ i → o.getD i 0 = 0) ∧ c < 65536 ∧
        Hq (evl 65536 o + c * 65536 ^ (k + j) = evl 65536 ((dg 65536 m).take k) * n + 65536 ^ k * ((dg 65536 m).getD k 0 * evl 65536 ((dg 65536 n).take j)))) (ln 65536 n)
      ⟨0, o, 0, rfl, rfl, rfl, rfl, rfl, by omega, hol, hoB, hoz, by omega, ⟨by simp [evl_nil, heq.out]⟩⟩ ?_
    conv => whnf
    repeat intro _
    rename_i r h3 L3 hI
    obtain ⟨j, o, c, rfl, rfl, rfl, e0, e1, hj, hol, hoB, hoz, hc, heq⟩ := hI
    conv at e0 => lhs; whnf
    subst e0
    conv at e1 => lhs; whnf
    subst e1
    have hdb := dg_getD_lt two_le_b n j
    have hdo := getD_lt (b := 65536) (by omega) hoB (k + j)
    conv => whnf
    repeat ((first | refine opsI.step ?_ | refine codeI.step ?_); conv => whnf)
    repeat' first
     | (show Idx _ _ _ _ _; first
       | (refine Idx.ws hb j (by omega) (by unfold ln at *; omega) (fun ad hv => ?_); conv => whnf)
       | (refine Idx.own (k + j) (by omega) (by omega) ?_; conv => whnf))
     | (show Ld _ _ _ _; first
       | (refine Ld.of (by first | exact hv _ | (rename_i hv; exact hv _)) ?_; conv => whnf)
       | (refine Ld.ws 0 rfl (by omega) ?_; conv => whnf))
     | (show RemN _ _ _; first
       | (refine RemN.nn (by omega) (by omega) ?_; conv => whnf))
     | (show QuoN _ _ _ _; first
       | (refine QuoN.u64 (by omega) (by omega) (by omega) ?_; conv => whnf))
     | (show WrapN _ _ _; first
       | (refine WrapN.mul16 hda hdb (fun p hp hp' => ?_); conv => whnf)
       | (refine WrapN.i64 (by omega) (by omega) ?_; conv => whnf)
       | (refine WrapN.u64 (by omega) (by omega) ?_; conv => whnf)
       | (refine WrapN.u32 (by omega) (by omega) ?_; conv => whnf))
     | (show Sto _ _ _ _; first
       | (rename_i p hp hp'; refine Sto.ws 0 rfl ((p + o.getD (k + j) 0 + c) % 65536) (by omega) (by omega) ?_; conv => whnf))
     | ((first | refine opsI.step ?_ | refine codeI.step ?_); conv => whnf)
     | (show cnd _ _ _; first
       | (refine cnd_lt (fun _ => ?_) (fun _ => ?_) <;> first | (exfalso; omega) | (conv => whnf)))
    · rename_i p hp hp'
      refine ⟨rfl, ln 65536 n - (j + 1), by omega, j + 1, _, (p + o.getD (k + j) 0 + c) / 65536, rfl, rfl, rfl, vi (by omega), vi (by omega), by omega, by simp [hol], mem_set_lt hoB (Nat.mod_lt _ (by omega)), fun i hi => by rw [getD_set_other _ (by omega)]; exact hoz i hi, by omega, ⟨?_⟩⟩
      have := mul_step (b := 65536) (p := k + j) (o := o) (s := p + o.getD (k + j) 0 + c) (x := (dg 65536 m).getD k 0) (y := (dg 65536 n).getD j 0) (by omega) (by rw [hp.out]) heq.out
      rw [show k + (j + 1) = k + j + 1 by omega, this, evl_take_next, Nat.mul_add, Nat.mul_add, Nat.pow_add]
      congr 2
      rw [Nat.mul_assoc, Nat.mul_left_comm ((dg 65536 m).getD k 0)]
    · obtain rfl : j = ln 65536 n := by omega
      refine Sto.ws 0 rfl c (by omega) (by omega) ?_
      conv => whnf
      repeat ((first | refine opsI.step ?_ | refine codeI.step ?_); conv => whnf)
      repeat' first
       | ((first | refine opsI.step ?_ | refine codeI.step ?_); conv => whnf)
       | (show WrapN _ _ _; first
         | (refine WrapN.i64 (by omega) (by omega) ?_; conv => whnf))
      refine ⟨rfl, ln 65536 m - (k + 1), by omega, k + 1, _, rfl, rfl, rfl, vi (by omega), by omega, by simp [hol], mem_set_lt hoB (by omega), fun i hi => by rw [getD_set_other _ (by omega)]; exact hoz i (by omega), ⟨?_⟩⟩
      have e := evl_set (b := 65536) (l := o) (k := k + ln 65536 n) c (by omega)
      rw [hoz _ (Nat.le_refl _), Nat.mul_zero, Nat.add_zero, Nat.mul_comm _ c, heq.out, evl_all two_le_b (Nat.le_refl _)] at e
      rw [e, evl_take_next, Nat.add_mul, Nat.mul_assoc]
  · obtain rfl : k = ln 65536 m := by omega
    refine CallN.keep 0 rfl rfl fun hle => ?_
    refine CallN.fn rfl (trim_ct _ ⟨some ⟨bo, 0, none⟩, ln 65536 m + ln 65536 n, ln 65536 m + ln 65536 n⟩ o (Ws.row (by simp [hol])) hoB (by omega)) (fun v h' hl hr => ?_)
    obtain ⟨s', rfl, hs⟩ := hr
    conv => whnf
    repeat ((first | refine opsI.step ?_ | refine codeI.step ?_); conv => whnf)
    refine RetN.all ⟨s', rfl, ?_⟩
    have heq := heq.out
    rw [evl_all two_le_b (Nat.le_refl _)] at heq
    rwa [heq] at hs

theorem ln_or16 (k n : Nat) : k < ln 65536 n ∨ (dg 65536 n).getD k 0 = 0 := by
  rcases Nat.lt_or_ge k (ln 65536 n) with h | h
  · exact .inl h
  · exact .inr (getD_out h)
set_option maxRecDepth 20000 in
set_option maxHeartbeats 1000000 in
theorem NatAdd_ct (h : Heap) (a b : Sl) (m n : Nat) (ha : IsRef h a m) (hb : IsRef h b n) (la : ln 65536 m ≤ 1099511627776) (lb : ln 65536 n ≤ 1099511627776) :
    Fn0 T F.ref01_NatAdd [a.val, b.val] h fun v h' => ∃ s : Sl, v = s.val ∧ IsRef h' s (m + n) := by
  have hal := ha.len
  have hbl := hb.len
  refine fn0_of_codeI ok D.ref01_NatAdd rfl ?_
  conv => whnf
  repeat ((first | refine opsI.step ?_ | refine codeI.step ?_); conv => whnf)
  refine SeqN.cut (fun ρ h' L => L = [] ∧ h' = h ∧ ∃ (a b : Sl) (m' n' : Nat), rd ρ 0 = a.val ∧ rd ρ 1 = b.val ∧ IsRef h a m' ∧ IsRef h b n' ∧ m' + n' = m + n ∧ ln 65536 n' ≤ ln 65536 m' ∧ ln 65536 m' ≤ 1099511627776) ?_ ?_
  · conv => whnf
    repeat ((first | refine opsI.step ?_ | refine codeI.step ?_); conv => whnf)
    repeat' first
     | ((first | refine opsI.step ?_ | refine codeI.step ?_); conv => whnf)
     | (show cnd _ _ _; first
       | (refine cnd_lt (fun _ => ?_) (fun _ => ?_) <;> first | (exfalso; omega) | (conv => whnf)))
    · exact ⟨rfl, rfl, rfl, b, a, n, m, rfl, rfl, hb, ha, by omega, by omega, by omega⟩
    · exact ⟨rfl, rfl, rfl, a, b, m, n, rfl, rfl, ha, hb, by omega, by omega, by omega⟩
  clear ha hb hal hbl
  conv => whnf
  repeat intro _
  rename_i h1 L1 hJ
  obtain ⟨rfl, rfl, a, b, m', n', e0, e1, ha, hb, hmn, hln, hlm⟩ := hJ
  conv at e0 => lhs; whnf
  subst e0
  conv at e1 => lhs; whnf
  subst e1
  have hal := ha.len
  have hbl := hb.len
  conv => whnf
  repeat ((first | refine opsI.step ?_ | refine codeI.step ?_); conv => whnf)
  repeat' first
   | (show Mk _ _ _; first
     | (refine Mk.of 0 (by omega) (by omega) (by omega) ?_; conv => whnf)
     | (refine Mk.of (ln 65536 m' + 1) (by omega) (by omega) (by omega) ?_; conv => whnf))
   | (refine ⟨Nat.zero_le _, ?_⟩; conv => whnf)
   | ((first | refine opsI.step ?_ | refine codeI.step ?_); conv => whnf)
   | (intro (_ : Nat); conv => whnf)
   | (show WrapN _ _ _; first
     | (refine WrapN.i64 (by omega) (by omega) ?_; conv => whnf))
  refine LoopN.of (fun r ρ h' L => ∃ (k : Nat) (v : Value) (xs : List Nat) (c : Nat), r = ln 65536 m' - k ∧ h' = h1 ∧ rd ρ 22 = .int .i64 k ∧ rd ρ 6 = .int .u32 c ∧ rd ρ 5 = v ∧ GrowS Ty.uint32 1 v k (xs.map (vu .u32)) L ∧ k ≤ ln 65536 m' ∧ xs.length = k ∧ (∀ x ∈ xs, x < 65536) ∧ c ≤ 1 ∧
      evl 65536 xs + c * 65536 ^ k = evl 65536 ((dg 65536 m').take k) + evl 65536 ((dg 65536 n').take k)) (ln 65536 m')
    ⟨0, _, [], 0, rfl, rfl, rfl, rfl, rfl, GrowS.new 0 rfl, by omega, rfl, by simp, by omega, by simp [evl_nil]⟩ ?_
  conv => whnf
  repeat intro _
  rename_i r h2 L2 hI
  obtain ⟨k, v, xs, c, rfl, rfl, e0, e1, e2, g, hk, hol, hoB, hc, heq⟩ := hI
  conv at e0 => lhs; whnf
  subst e0
  conv at e1 => lhs; whnf
  subst e1
  conv at e2 => lhs; whnf
  subst e2
  have hda := dg_getD_lt two_le_b m' k
  have hdb := dg_getD_lt two_le_b n' k
  have hz := ln_or16 k n'
  conv => whnf
  repeat ((first | refine opsI.step ?_ | refine codeI.step ?_); conv => whnf)
  repeat' first
   | (show SeqN _ _ _ _ _ _ _; first
     | (refine SeqN.go ?_; conv => whnf))
   | (show Idx _ _ _ _ _; first
     | (refine Idx.ws ha k (by omega) (by unfold ln at *; omega) (fun ad hv => ?_); conv => whnf)
     | (refine Idx.ws hb k (by omega) (by unfold ln at *; omega) (fun ad hv => ?_); conv => whnf))
   | (show Ld _ _ _ _; first
     | (refine Ld.of (by first | exact hv _ | (rename_i hv; exact hv _)) ?_; conv => whnf))
   | (show RemN _ _ _; first
     | (refine RemN.nn (by omega) (by omega) ?_; conv => whnf))
   | (show QuoN _ _ _ _; first
     | (refine QuoN.u32 (by omega) (by omega) (by omega) ?_; conv => whnf))
   | (show App _ _ _ _ _ _ _ _ _; first
     | (refine App.push rfl g (((dg 65536 m').getD k 0 + c + (dg 65536 n').getD k 0) % 65536) (by omega) (by omega) (by decide) (fun v' L' g' => ?_); conv => whnf)
     | (refine App.push rfl g c (by omega) (by omega) (by decide) (fun v' L' g' => ?_); conv => whnf))
   | ((first | refine opsI.step ?_ | refine codeI.step ?_); conv => whnf)
   | (intro (_ : Nat); conv => whnf)
   | (show WrapN _ _ _; first
     | (refine WrapN.i64 (by omega) (by omega) ?_; conv => whnf)
     | (refine WrapN.u32 (by omega) (by omega) ?_; conv => whnf))
   | (show cnd _ _ _; first
     | (refine cnd_lt (fun _ => ?_) (fun _ => ?_) <;> first | (exfalso; omega) | (conv => whnf)))
  · exact ⟨rfl, ln 65536 m' - (k + 1), by omega, k + 1, _, _, ((dg 65536 m').getD k 0 + c + (dg 65536 n').getD k 0) / 65536, rfl, rfl, vi (by omega), vi (by omega), rfl, g', by omega, by simp [hol], mem_snoc hoB (Nat.mod_lt _ (by omega)), by omega, addp_step hol rfl heq⟩
  · exact ⟨rfl, ln 65536 m' - (k + 1), by omega, k + 1, _, _, ((dg 65536 m').getD k 0 + c + (dg 65536 n').getD k 0) / 65536, rfl, rfl, vi (by omega), vi (by omega), rfl, g', by omega, by simp [hol], mem_snoc hoB (Nat.mod_lt _ (by omega)), by omega, addp_step hol rfl heq⟩
  all_goals
    obtain rfl : k = ln 65536 m' := by omega
    rw [evl_all two_le_b (Nat.le_refl _), evl_all two_le_b hln, hmn] at heq
  · have e : evl 65536 (xs ++ [c]) = m + n := by rw [evl_snoc, hol, Nat.mul_comm]; exact heq
    refine RetN.grow g' fun h' s hle hv w => ⟨s, hv, ?_⟩
    unfold IsRef
    rw [← e, dg_full two_le_b (mem_snoc hoB (by omega)) (.inr ?_)]
    · exact w
    · rw [evl_snoc, List.length_append, hol]
      have : 65536 ^ ln 65536 m' * 1 ≤ 65536 ^ ln 65536 m' * c := Nat.mul_le_mul_left _ (by omega)
      simp; omega
  · obtain rfl : c = 0 := by omega
    rw [Nat.zero_mul, Nat.add_zero] at heq
    refine RetN.grow g fun h' s hle hv w => ⟨s, hv, ?_⟩
    unfold IsRef
    rw [← heq, dg_full two_le_b hoB ?_]
    · exact w
    · by_cases h0 : ln 65536 m' = 0
      · exact .inl (by omega)
      · refine .inr ?_
        rw [heq, hol]
        have := pow_le_of_ln (n := m') (k := ln 65536 m' - 1) two_le_b (by omega)
        omega

set_option maxRecDepth 20000 in
set_option maxHeartbeats 1000000 in
theorem NatSub_ct (h : Heap) (a b : Sl) (m n : Nat) (ha : IsRef h a m) (hb : IsRef h b n) (la : ln 65536 m ≤ 1099511627776) (hnm : n ≤ m) :
    Fn0 T F.ref01_NatSub [a.val, b.val] h fun v h' => ∃ s : Sl, v = s.val ∧ IsRef h' s (m - n) := by
  have hal := ha.len
  have hbl := hb.len
  have hln := ln_mono two_le_b hnm
  refine fn0_of_codeI ok D.ref01_NatSub rfl ?_
  conv => whnf
  repeat ((first | refine opsI.step ?_ | refine codeI.step ?_); conv => whnf)
  repeat' first
   | (show Mk _ _ _; first
     | (refine Mk.of 0 (by omega) (by omega) (by omega) ?_; conv => whnf)
     | (refine Mk.of (ln 65536 m) (by omega) (by omega) (by omega) ?_; conv => whnf))
   | (refine ⟨Nat.zero_le _, ?_⟩; conv => whnf)
   | ((first | refine opsI.step ?_ | refine codeI.step ?_); conv => whnf)
   | (intro (_ : Nat); conv => whnf)
  refine LoopN.of (fun r ρ h' L => ∃ (k : Nat) (v : Value) (xs : List Nat) (c : Nat), r = ln 65536 m - k ∧ h' = h ∧ rd ρ 15 = .int .i64 k ∧ rd ρ 6 = .int .u32 c ∧ rd ρ 5 = v ∧ GrowS Ty.uint32 1 v k (xs.map (vu .u32)) L ∧ k ≤ ln 65536 m ∧ xs.length = k ∧ (∀ x ∈ xs, x < 65536) ∧ c ≤ 1 ∧
      evl 65536 xs + evl 65536 ((dg 65536 n).take k) = evl 65536 ((dg 65536 m).take k) + c * 65536 ^ k) (ln 65536 m)
    ⟨0, _, [], 0, rfl, rfl, rfl, rfl, rfl, GrowS.new 0 rfl, by omega, rfl, by simp, by omega, by simp [evl_nil]⟩ ?_
  conv => whnf
  repeat intro _
  rename_i r h2 L2 hI
  obtain ⟨k, v, xs, c, rfl, rfl, e0, e1, e2, g, hk, hol, hoB, hc, heq⟩ := hI
  conv at e0 => lhs; whnf
  subst e0
  conv at e1 => lhs; whnf
  subst e1
  conv at e2 => lhs; whnf
  subst e2
  have hda := dg_getD_lt two_le_b m k
  have hdb := dg_getD_lt two_le_b n k
  have hz := ln_or16 k n
  obtain ⟨x, hx⟩ : ∃ x, x = if (dg 65536 m).getD k 0 < c + (dg 65536 n).getD k 0 then (dg 65536 m).getD k 0 + 65536 - (c + (dg 65536 n).getD k 0) else (dg 65536 m).getD k 0 - (c + (dg 65536 n).getD k 0) := ⟨_, rfl⟩
  conv => whnf
  repeat ((first | refine opsI.step ?_ | refine codeI.step ?_); conv => whnf)
  repeat' first
   | (show SeqN _ _ _ _ _ _ _; first
     | (refine SeqN.go ?_; conv => whnf))
   | (show Idx _ _ _ _ _; first
     | (refine Idx.ws ha k (by omega) (by unfold ln at *; omega) (fun ad hv => ?_); conv => whnf)
     | (refine Idx.ws hb k (by omega) (by unfold ln at *; omega) (fun ad hv => ?_); conv => whnf))
   | (show Ld _ _ _ _; first
     | (refine Ld.of (by first | exact hv _ | (rename_i hv; exact hv _)) ?_; conv => whnf))
   | (show App _ _ _ _ _ _ _ _ _; first
     | (refine App.push rfl g x (by split at hx <;> omega) (by omega) (by decide) (fun v' L' g' => ?_); conv => whnf))
   | ((first | refine opsI.step ?_ | refine codeI.step ?_); conv => whnf)
   | (intro (_ : Nat); conv => whnf)
   | (show WrapN _ _ _; first
     | (refine WrapN.i64 (by omega) (by omega) ?_; conv => whnf)
     | (refine WrapN.u32 (by omega) (by omega) ?_; conv => whnf))
   | (show cnd _ _ _; first
     | (refine cnd_lt (fun _ => ?_) (fun _ => ?_) <;> first | (exfalso; omega) | (conv => whnf)))
  rotate_right
  · obtain rfl : k = ln 65536 m := by omega
    rw [evl_all two_le_b (Nat.le_refl _), evl_all two_le_b hln] at heq
    refine CallN.grow g rfl fun h' L' s hle hv w => ?_
    rw [hv]
    refine CallN.fn rfl (trim_ct _ s xs w hoB (by omega)) (fun v h' hl hr => ?_)
    obtain ⟨s', rfl, hs⟩ := hr
    conv => whnf
    repeat ((first | refine opsI.step ?_ | refine codeI.step ?_); conv => whnf)
    refine RetN.all ⟨s', rfl, ?_⟩
    have hlt := evl_lt two_le_b hoB
    rw [hol] at hlt
    have : evl 65536 xs = m - n := by
      match c, hc with
      | 0, _ => omega
      | 1, _ => omega
    rwa [this] at hs
  all_goals
    refine ⟨rfl, ln 65536 m - (k + 1), by omega, k + 1, _, _, (if (dg 65536 m).getD k 0 < c + (dg 65536 n).getD k 0 then 1 else 0), rfl, rfl, vi (by omega), vi (by split <;> omega), rfl, g', by omega, by simp [hol], mem_snoc hoB (by split at hx <;> omega), by split <;> omega, subp_step (c := c) hol (by split at hx <;> split <;> omega) heq⟩
end Go.Proofs.YtdemgbmndijkkaaGreatDoor
/- Contracts of the reference's functions on natural numbers (digits to the base 65536), second part: words, bits, powers, shifts, division by a digit. -/
namespace Go.Dig
theorem ln_half (m : Nat) : ln 4294967296 m = (ln 65536 m + 1) / 2 := by
  have key : ∀ k, ln 4294967296 m ≤ k ↔ ln 65536 m ≤ 2 * k := fun k => by
    rw [ln_le_iff (by decide), ln_le_iff (by decide), Nat.pow_mul]
  have h1 := (key (ln 4294967296 m)).1 (Nat.le_refl _)
  have h2 := (key ((ln 65536 m + 1) / 2)).2 (by omega)
  omega
theorem word_digit (m k : Nat) : m / 4294967296 ^ k % 4294967296 = m / 65536 ^ (2 * k) % 65536 + 65536 * (m / 65536 ^ (2 * k + 1) % 65536) := by
  have e1 : (4294967296 : Nat) ^ k = 65536 ^ (2 * k) := by rw [Nat.pow_mul]
  rw [e1, Nat.pow_succ, ← Nat.div_div_eq_div_mul]
  generalize m / 65536 ^ (2 * k) = x
  omega
end Go.Dig
namespace Go.Proofs.YtdemgbmndijkkaaGreatDoor
open Go Go.Vc Go.Dig

set_option maxRecDepth 20000 in
theorem words_ct (h : Heap) (s : Sl) (l : List Nat) (hw : Ws .u32 h s l) (hl : ∀ x ∈ l, x < 4294967296) (hm : l.length ≤ 1099511627776) :
    Fn0 T F.ref01_words [s.val] h fun v h' => ∃ s' : Sl, v = s'.val ∧ IsRef h' s' (evl 4294967296 l) := by
  have hlen := hw.len
  refine fn0_of_codeI ok D.ref01_words rfl ?_
  conv => whnf
  repeat ((first | refine opsI.step ?_ | refine codeI.step ?_); conv => whnf)
  skip
  refine LoopN.of (fun r ρ h' L => ∃ (k : Nat) (v : Value) (xs : List Nat), r = l.length - k ∧ h' = h ∧ rd ρ 8 = .int .i64 k ∧ rd ρ 3 = v ∧ GrowS Ty.uint32 1 v (2 * k) (xs.map (vu .u32)) L ∧ k ≤ l.length ∧ xs.length = 2 * k ∧ (∀ x ∈ xs, x < 65536) ∧ evl 65536 xs = evl 4294967296 (l.take k)) l.length
    ⟨0, _, [], rfl, rfl, rfl, rfl, GrowS.none, by omega, rfl, by simp, by simp [evl_nil]⟩ ?_
  conv => whnf
  repeat intro _
  rename_i r h1 L1 hI
  obtain ⟨k, v, xs, rfl, rfl, e0, e1, g, hk, hxl, hxB, heq⟩ := hI
  conv at e0 => lhs; whnf
  subst e0
  conv at e1 => lhs; whnf
  subst e1
  have hd := getD_lt (b := 4294967296) (by omega) hl k
  conv => whnf
  repeat ((first | refine opsI.step ?_ | refine codeI.step ?_); conv => whnf)
  repeat' first
   | (show Idx _ _ _ _ _; first
     | (refine Idx.ws hw k (by omega) (by omega) (fun ad hv => ?_); conv => whnf))
   | (show Ld _ _ _ _; first
     | (refine Ld.of (by first | exact hv _ | (rename_i hv; exact hv _)) ?_; conv => whnf))
   | (show RemN _ _ _; first
     | (refine RemN.nn (by omega) (by omega) ?_; conv => whnf))
   | (show QuoN _ _ _ _; first
     | (refine QuoN.u32 (by omega) (by omega) (by omega) ?_; conv => whnf))
   | (show App _ _ _ _ _ _ _ _ _; first
     | (refine App.push2 rfl g (l.getD k 0 % 65536) (l.getD k 0 / 65536) (by omega) (by omega) (by omega) (by decide) (fun v' L' g' => ?_); conv => whnf))
   | ((first | refine opsI.step ?_ | refine codeI.step ?_); conv => whnf)
   | (intro (_ : Nat); conv => whnf)
   | (show WrapN _ _ _; first
     | (refine WrapN.i64 (by omega) (by omega) ?_; conv => whnf))
   | (show cnd _ _ _; first
     | (refine cnd_lt (fun _ => ?_) (fun _ => ?_) <;> first | (exfalso; omega) | (conv => whnf)))
  · refine ⟨rfl, l.length - (k + 1), by omega, k + 1, v', _, rfl, rfl, vi (by omega), rfl, (by rw [show 2 * (k + 1) = 2 * k + 2 by omega]; exact g'), by omega, by simp; omega, ?_, ?_⟩
    · intro y hy
      rcases List.mem_append.1 hy with hy | hy
      · exact hxB y hy
      · rcases List.mem_cons.1 hy with rfl | hy
        · omega
        · rcases List.mem_cons.1 hy with rfl | hy
          · omega
          · cases hy
    · rw [evl_append, hxl, heq, evl_take_next, Nat.pow_mul]
      congr 1
      simp only [evl_cons, evl_nil]
      rw [show (65536 : Nat) ^ 2 = 4294967296 by decide, Nat.mul_zero, Nat.add_zero, Nat.mod_add_div]
  · obtain rfl : k = l.length := by omega
    rw [List.take_length] at heq
    refine CallN.grow g rfl fun h' L' s hle hv w => ?_
    rw [hv]
    refine CallN.fn rfl (trim_ct _ s xs w hxB (by omega)) (fun v h' hl hr => ?_)
    obtain ⟨s', rfl, hs⟩ := hr
    conv => whnf
    repeat ((first | refine opsI.step ?_ | refine codeI.step ?_); conv => whnf)
    exact RetN.all ⟨s', rfl, by rw [← heq]; exact hs⟩

set_option maxRecDepth 20000 in
theorem list_ct (h : Heap) (s : Sl) (m : Nat) (hw : IsRef h s m) (hm : ln 65536 m ≤ 1099511627776) :
    Fn0 T F.ref01_list [s.val] h fun v h' => ∃ s' : Sl, v = s'.val ∧ IsNat h' s' m := by
  have hlen := hw.len
  have hh := ln_half m
  refine fn0_of_codeI ok D.ref01_list rfl ?_
  conv => whnf
  repeat ((first | refine opsI.step ?_ | refine codeI.step ?_); conv => whnf)
  skip
  refine LoopN.of (fun r ρ h' L => ∃ (k : Nat) (v : Value) (xs : List Nat), r = ln 4294967296 m - k ∧ h' = h ∧ rd ρ 4 = .int .i64 (2 * k : Nat) ∧ rd ρ 3 = v ∧ GrowS Ty.uint32 1 v k (xs.map (vu .u32)) L ∧ k ≤ ln 4294967296 m ∧ xs = (dg 4294967296 m).take k) (ln 4294967296 m)
    ⟨0, _, [], rfl, rfl, rfl, rfl, GrowS.none, by omega, by simp⟩ ?_
  conv => whnf
  repeat intro _
  rename_i r h1 L1 hI
  obtain ⟨k, v, xs, rfl, rfl, e0, e1, g, hk, hxs⟩ := hI
  conv at e0 => lhs; whnf
  subst e0
  conv at e1 => lhs; whnf
  subst e1
  have hd := dg_getD_lt two_le_b m (2 * k)
  have hd1 := dg_getD_lt two_le_b m (2 * k + 1)
  have hwd : (dg 4294967296 m).getD k 0 = (dg 65536 m).getD (2 * k) 0 + 65536 * (dg 65536 m).getD (2 * k + 1) 0 := by
    rw [dg_getD two_le_B, dg_getD two_le_b, dg_getD two_le_b, word_digit]
  have hz := ln_or16 (2 * k + 1) m
  conv => whnf
  repeat ((first | refine opsI.step ?_ | refine codeI.step ?_); conv => whnf)
  repeat' first
   | (show SeqN _ _ _ _ _ _ _; first
     | (refine SeqN.go ?_; conv => whnf))
   | (show Idx _ _ _ _ _; first
     | (refine Idx.ws hw (2 * k) (by omega) (by unfold ln at *; omega) (fun ad hv => ?_); conv => whnf)
     | (refine Idx.ws hw (2 * k + 1) (by omega) (by unfold ln at *; omega) (fun ad hv => ?_); conv => whnf))
   | (show Ld _ _ _ _; first
     | (refine Ld.of (by first | exact hv _ | (rename_i hv; exact hv _)) ?_; conv => whnf))
   | (show App _ _ _ _ _ _ _ _ _; first
     | (refine App.push rfl g ((dg 4294967296 m).getD k 0) (by omega) (by omega) (by decide) (fun v' L' g' => ?_); conv => whnf))
   | ((first | refine opsI.step ?_ | refine codeI.step ?_); conv => whnf)
   | (intro (_ : Nat); conv => whnf)
   | (show WrapN _ _ _; first
     | (refine WrapN.i64 (by omega) (by omega) ?_; conv => whnf)
     | (refine WrapN.u32 (by omega) (by omega) ?_; conv => whnf))
   | (show cnd _ _ _; first
     | (refine cnd_lt (fun _ => ?_) (fun _ => ?_) <;> first | (exfalso; omega) | (conv => whnf)))
  rotate_right
  · obtain rfl : k = ln 4294967296 m := by omega
    refine RetN.grow g fun h' s hle hv w => ⟨s, hv, ?_⟩
    unfold IsNat
    rw [hxs] at w
    unfold ln at w
    rwa [List.take_length] at w
  all_goals
    refine ⟨rfl, ln 4294967296 m - (k + 1), by omega, k + 1, v', _, rfl, rfl, vi (by omega), rfl, g', by omega, ?_⟩
    rw [hxs, List.take_succ_eq_append_getElem (by unfold ln at *; omega)]
    simp [List.getD_eq_getElem?_getD, show k < (dg 4294967296 m).length by unfold ln at *; omega]

theorem bl_two {x : Nat} (h : 0 < x) : bl x = bl (x / 2) + 1 := by
  by_cases h1 : x = 1
  · subst h1; decide
  · have h2 : 2 ^ 1 ≤ x := by omega
    have := bl_div h2
    simpa [Nat.add_comm] using this
end Go.Proofs.YtdemgbmndijkkaaGreatDoor
/- Contracts of the reference's functions on natural numbers (digits to the base 65536), third part: division by a digit, shifts, what long division calls. -/
namespace Go.Dig
theorem shr_digit16 {N k r : Nat} (hr : r ≤ 15) : (N / 65536 ^ k % 65536 + 65536 * (N / 65536 ^ (k + 1) % 65536)) / 2 ^ r % 65536 = N / 2 ^ r / 65536 ^ k % 65536 := by
  have e1 : N / 65536 ^ (k + 1) = N / 65536 ^ k / 65536 := by rw [Nat.pow_succ, Nat.div_div_eq_div_mul]
  rw [e1, show N / 2 ^ r / 65536 ^ k = N / 65536 ^ k / 2 ^ r by rw [Nat.div_div_eq_div_mul, Nat.mul_comm, ← Nat.div_div_eq_div_mul]]
  generalize N / 65536 ^ k = M
  rw [← Nat.mod_mul]
  have e2 : (65536 * 65536 : Nat) = 2 ^ r * (65536 * 2 ^ (16 - r)) := by
    rw [Nat.mul_left_comm, ← Nat.pow_add, show r + (16 - r) = 16 by omega]
  rw [e2, Nat.mod_mul_right_div_self, Nat.mod_mul_right_mod]
end Go.Dig
namespace Go.Proofs.YtdemgbmndijkkaaGreatDoor
open Go Go.Vc Go.Dig

set_option maxRecDepth 20000 in
set_option maxHeartbeats 1000000 in
theorem small_ct (h : Heap) (a : Sl) (m d : Nat) (ha : IsRef h a m) (la : ln 65536 m ≤ 17179869184) (hd : d < 65536) (h0 : 0 < d) :
    Fn0 T F.ref01_small [a.val, .int .u32 d] h fun v h' => ∃ s : Sl, v = .tuple #[s.val, .int .u32 (m % d : Nat)] ∧ IsRef h' s (m / d) := by
  have hal := ha.len
  refine fn0_of_codeI ok D.ref01_small rfl ?_
  conv => whnf
  repeat ((first | refine opsI.step ?_ | refine codeI.step ?_); conv => whnf)
  repeat' first
   | (show Mk _ _ _; first
     | (refine Mk.of (ln 65536 m) (by omega) (by omega) (by omega) ?_; conv => whnf))
   | (refine ⟨Nat.le_refl _, ?_⟩; conv => whnf)
   | (intro (bo : Nat); conv => whnf)
   | ((first | refine opsI.step ?_ | refine codeI.step ?_); conv => whnf)
   | (show WrapN _ _ _; first
     | (refine WrapN.i64 (by omega) (by omega) ?_; conv => whnf))
  refine LoopN.of (fun k ρ h' L => ∃ (o : List Nat) (c : Nat), h' = h ∧ L = [(bo, Row .u32 Ty.uint32 o)] ∧ rd ρ 8 = .int .i64 ((k : Int) - 1) ∧ rd ρ 7 = .int .u32 c ∧ k ≤ ln 65536 m ∧ o.length = ln 65536 m ∧ (∀ x ∈ o, x < 65536) ∧ c < d ∧ Hq (evl 65536 ((dg 65536 m).drop k) = evl 65536 (o.drop k) * d + c)) (ln 65536 m)
    ⟨List.replicate (ln 65536 m) 0, 0, rfl, by rw [row_new], vi (by omega), rfl, Nat.le_refl _, by simp, by simp, h0, ⟨by rw [List.drop_eq_nil_of_le (by unfold ln; omega), List.drop_eq_nil_of_le (by simp)]; simp [evl_nil]⟩⟩ ?_
  conv => whnf
  repeat intro _
  rename_i k h2 L2 hI
  obtain ⟨o, c, rfl, rfl, e0, e1, hk, hol, hoB, hc, heq⟩ := hI
  conv at e0 => lhs; whnf
  subst e0
  conv at e1 => lhs; whnf
  subst e1
  have hda := dg_getD_lt two_le_b m (k - 1)
  obtain ⟨p, hp⟩ : ∃ p, p = c * 65536 := ⟨_, rfl⟩
  obtain ⟨s, hs⟩ : ∃ s, s = (dg 65536 m).getD (k - 1) 0 + p := ⟨_, rfl⟩
  have hq : Hq (s / d < 65536) := ⟨by
    rw [Nat.div_lt_iff_lt_mul h0]
    have : (c + 1) * 65536 ≤ d * 65536 := Nat.mul_le_mul_right _ hc
    omega⟩
  obtain ⟨q, hqd⟩ : ∃ q, q = s / d := ⟨_, rfl⟩
  obtain ⟨z, hzd⟩ : ∃ z, z = s % d := ⟨_, rfl⟩
  have hz : z < d := by rw [hzd]; exact Nat.mod_lt _ h0
  have hqz : Hq (s = q * d + z) := ⟨by rw [hqd, hzd, Nat.mul_comm, Nat.div_add_mod]⟩
  have hqB := hq.out
  rw [← hqd] at hqB
  have eq1 : ((s : Int) / (d : Int)) = (q : Int) := by rw [hqd]; rfl
  have eq2 : ((s : Int) % (d : Int)) = (z : Int) := by rw [hzd]; rfl
  replace hqd := Hq.mk hqd
  replace hzd := Hq.mk hzd
  conv => whnf
  repeat ((first | refine opsI.step ?_ | refine codeI.step ?_); conv => whnf)
  repeat' first
   | (show WrapN _ _ _; first
     | (refine WrapN.u32v p (by omega) ?_; conv => whnf)
     | (refine WrapN.u32v s (by omega) ?_; conv => whnf)
     | (refine WrapN.i64 (by omega) (by omega) ?_; conv => whnf))
   | (show Idx _ _ _ _ _; first
     | (refine Idx.ws ha (k - 1) (by omega) (by unfold ln at *; omega) (fun ad hv => ?_); conv => whnf)
     | (refine Idx.own (k - 1) (by omega) (by omega) ?_; conv => whnf))
   | (show Ld _ _ _ _; first
     | (refine Ld.of (by first | exact hv _ | (rename_i hv; exact hv _)) ?_; conv => whnf))
   | (show QuoN _ _ _ _; first
     | (refine QuoN.u32 (by omega) (by omega) (by omega) ?_; rw [eq1]; conv => whnf))
   | (show RemN _ _ _; first
     | (refine RemN.nn (by omega) (by omega) ?_; rw [eq2]; conv => whnf))
   | (show Sto _ _ _ _; first
     | (refine Sto.ws 0 rfl q (by omega) (by omega) ?_; conv => whnf))
   | ((first | refine opsI.step ?_ | refine codeI.step ?_); conv => whnf)
   | (show cnd _ _ _; first
     | (refine cnd_le (fun _ => ?_) (fun _ => ?_) <;> first | (exfalso; omega) | (conv => whnf)))
  · obtain ⟨k, rfl⟩ : ∃ k', k = k' + 1 := ⟨k - 1, by omega⟩
    have heq : evl 65536 ((dg 65536 m).drop (k + 1)) = evl 65536 (o.drop (k + 1)) * d + c := heq.out
    refine ⟨rfl, k, by omega, _, z, rfl, rfl, vi (by omega), vi (by omega), by omega, by simp [hol], mem_set_lt hoB hqB, hz, ⟨?_⟩⟩
    show evl 65536 ((dg 65536 m).drop k) = evl 65536 ((o.set k q).drop k) * d + z
    rw [evl_drop (k := k) (l := dg 65536 m) (by unfold ln at *; omega), evl_drop (k := k) (l := o.set k q) (by simp; omega), getD_set_self _ (by omega), drop_set, heq, Nat.add_mul, Nat.mul_assoc, Nat.mul_add]
    have := hqz.out
    have hs : s = (dg 65536 m).getD k 0 + p := hs
    omega
  · obtain rfl : k = 0 := by omega
    refine CallN.keep 0 rfl rfl fun hle => ?_
    refine CallN.fn rfl (trim_ct _ ⟨some ⟨bo, 0, none⟩, ln 65536 m, ln 65536 m⟩ o (Ws.row (by simp [hol])) hoB (by omega)) (fun v h' hl hr => ?_)
    obtain ⟨s', rfl, hs⟩ := hr
    conv => whnf
    repeat ((first | refine opsI.step ?_ | refine codeI.step ?_); conv => whnf)
    skip
    have heq := heq.out
    rw [List.drop_zero, List.drop_zero, evl_dg two_le_b] at heq
    have e1 : m / d = evl 65536 o := by rw [heq, Nat.add_comm, Nat.add_mul_div_right _ _ h0, Nat.div_eq_of_lt hc, Nat.zero_add]
    have e2 : m % d = c := by rw [heq, Nat.mul_comm, Nat.mul_add_mod, Nat.mod_eq_of_lt hc]
    refine RetN.all ⟨s', by rw [e2], ?_⟩
    rwa [e1]

/-- a grown row is trimmed -/
theorem CallN.trim {h : Heap} {L : Own} {k : Value → Heap → Own → Prop} {v : Value} {n : Nat} {xs : List Nat} (g : GrowS Ty.uint32 1 v n (xs.map (vu .u32)) L) (hx : ∀ x ∈ xs, x < 65536) (hm : xs.length ≤ 4398046511104)
    (hk : ∀ v' h', h.le h' → GrowS Ty.uint32 1 v' (ln 65536 (evl 65536 xs)) ((dg 65536 (evl 65536 xs)).map (vu .u32)) L → k v' h' L) : CallN T F.ref01_trim [v] h L k := by
  obtain ⟨h1, h2⟩ := trim_take hx
  obtain ⟨e4, ⟨rfl, rfl⟩ | ⟨i, b, cap, zs, rfl, e2, e3, e5⟩⟩ := g
  · obtain rfl : xs = [] := by simpa using e4
    refine CallN.quiet rfl (trim_q h ⟨none, 0, 0⟩ [] (Ws.nil rfl) hx hm) (hk _ _ (Heap.le_refl _) ?_)
    rw [evl_nil, ln_zero, dg_zero]; exact GrowS.nil _ _ _
  · have hn : n = xs.length := by simpa using e4.symm
    refine CallN.lend i e2 rfl (fun _ => (trim_q _ ⟨some ⟨b, 0, none⟩, n, cap⟩ xs (Ws.grown hn e3) hx hm).mono fun v h' _ r => r.2) fun v' h' hl e => ?_
    rw [e]
    have e6 : (dg 65536 (evl 65536 xs)).map (vu .u32) ++ ((xs.drop (ln 65536 (evl 65536 xs))).map (vu .u32) ++ zs) = xs.map (vu .u32) ++ zs := by
      rw [h2, ← List.append_assoc, ← List.map_append, List.take_append_drop]
    refine hk _ _ hl ⟨by simp; unfold ln; rfl, .inr ⟨i, b, cap, (xs.drop (ln 65536 (evl 65536 xs))).map (vu .u32) ++ zs, rfl, ?_, by omega, ?_⟩⟩
    · rw [e2, e6]
    · rw [e6]; exact e5

set_option maxRecDepth 20000 in
set_option maxHeartbeats 1000000 in
/-- the reference's shift to the left, which hands out memory of its own -/
theorem NatShl_ow (h : Heap) (a : Sl) (m n : Nat) (ha : IsRef h a m) (la : ln 65536 m ≤ 17179869184) (hn : n ≤ 549755813888) :
    Vc.Fn T F.ref01_NatShl [a.val, .int .i64 n] h [] fun v _ L' => GrowS Ty.uint32 1 v (ln 65536 (m * 2 ^ n)) ((dg 65536 (m * 2 ^ n)).map (vu .u32)) L' := by
  have hal := ha.len
  have hma := ln_eq_zero two_le_b (n := m)
  obtain ⟨r, hr⟩ : ∃ r, r = n % 16 := ⟨_, rfl⟩
  obtain ⟨q, hq⟩ : ∃ q, q = n / 16 := ⟨_, rfl⟩
  have hr15 : r ≤ 15 := by omega
  have hpow : Hq (2 ^ n = 2 ^ r * 65536 ^ q) := ⟨by
    rw [show (65536 : Nat) = 2 ^ 16 from rfl, ← Nat.pow_mul, ← Nat.pow_add]; congr 1; omega⟩
  have hcase : (ln 65536 m = 0 ∨ n = 0) → m * 2 ^ n = m := fun hh => by
    rcases hh with hh | hh
    · rw [hma.1 hh, Nat.zero_mul]
    · rw [hh, Nat.pow_zero, Nat.mul_one]
  clear hma
  refine fn_of_codeI ok D.ref01_NatShl rfl ?_
  conv => whnf
  repeat ((first | refine opsI.step ?_ | refine codeI.step ?_); conv => whnf)
  repeat' first
   | (show App _ _ _ _ _ _ _ _ _; first
     | (refine App.any (s := .slice _ _ _) rfl (GrowS.new (z := .int .u32 0) (kd := .u32) 0 rfl) ha (by unfold ln at *; omega) (by decide) (fun v' L' g => ?_); conv => whnf))
   | (show QuoN _ _ _ _; first
     | (refine QuoN.i64 (by omega) (by omega) (by omega) ?_; conv => whnf))
   | (show Mk _ _ _; first
     | (refine Mk.of q (by omega) (by omega) (by omega) ?_; conv => whnf)
     | (refine Mk.of (q + ln 65536 m + 1) (by omega) (by omega) (by omega) ?_; conv => whnf))
   | (refine ⟨show q ≤ q + ln 65536 m + 1 by omega, ?_⟩; conv => whnf)
   | ((first | refine opsI.step ?_ | refine codeI.step ?_); conv => whnf)
   | (intro (_ : Nat); conv => whnf)
   | (show WrapN _ _ _; first
     | (refine WrapN.i64 (by omega) (by omega) ?_; conv => whnf))
   | (show cnd _ _ _; first
     | (refine cnd_le (fun _ => ?_) (fun _ => ?_) <;> first | (exfalso; omega) | (conv => whnf))
     | (refine cnd_eq (fun _ => ?_) (fun _ => ?_) <;> first | (exfalso; omega) | (conv => whnf)))
  · rw [hcase (.inl (by omega))]
    refine RetN.done ?_
    simpa [ln] using g
  · rw [hcase (.inr (by omega))]
    refine RetN.done ?_
    simpa [ln] using g
  clear hcase
  refine LoopN.of (fun d ρ h' L => ∃ (k : Nat) (v : Value) (xs : List Nat) (c : Nat), d = ln 65536 m - k ∧ h' = h ∧ rd ρ 31 = .int .i64 k ∧ rd ρ 6 = .int .u32 c ∧ rd ρ 5 = v ∧ GrowS Ty.uint32 1 v (q + k) (xs.map (vu .u32)) L ∧ k ≤ ln 65536 m ∧ xs.length = q + k ∧ (∀ x ∈ xs, x < 65536) ∧ c < 32768 ∧ Hq (c < 2 ^ r) ∧
      Hq (evl 65536 xs + c * 65536 ^ (q + k) = evl 65536 ((dg 65536 m).take k) * (2 ^ r * 65536 ^ q))) (ln 65536 m)
    ⟨0, _, List.replicate q 0, 0, rfl, rfl, rfl, rfl, rfl, GrowS.zero 0 rfl (by omega), by omega, by simp, by simp, by omega, ⟨Nat.two_pow_pos r⟩, ⟨by rw [evl_zeros 65536 (l := List.replicate q 0) (by simp)]; simp [evl_nil]⟩⟩ ?_
  conv => whnf
  repeat intro _
  rename_i rr h2 L2 hI
  obtain ⟨k, v, xs, c, rfl, rfl, e0, e1, e2, g, hk, hol, hoB, hcB, hc, heq⟩ := hI
  conv at e0 => lhs; whnf
  subst e0
  conv at e1 => lhs; whnf
  subst e1
  conv at e2 => lhs; whnf
  subst e2
  have hda := dg_getD_lt two_le_b m k
  have hpr : Hq (2 ^ r ≤ 32768) := ⟨Nat.pow_le_pow_right (n := 2) (by omega) hr15⟩
  conv => whnf
  repeat ((first | refine opsI.step ?_ | refine codeI.step ?_); conv => whnf)
  repeat' first
   | (show Idx _ _ _ _ _; first
     | (refine Idx.ws ha k (by omega) (by unfold ln at *; omega) (fun ad hv => ?_); conv => whnf))
   | (show Ld _ _ _ _; first
     | (refine Ld.of (by first | exact hv _ | (rename_i hv; exact hv _)) ?_; conv => whnf))
   | (show RemN _ _ _; first
     | (refine RemN.nn (by omega) (by omega) ?_; conv => whnf))
   | (show ShlN _ _ _ _; first
     | (refine ShlN.u32p (r := r) rfl (by omega) hda hr15 (fun p hp hp' => ?_); conv => whnf))
   | ((first | refine opsI.step ?_ | refine codeI.step ?_); conv => whnf)
   | (intro (_ : Nat); conv => whnf)
   | (show cnd _ _ _; first
     | (refine cnd_lt (fun _ => ?_) (fun _ => ?_) <;> first | (exfalso; omega) | (conv => whnf)))
   | (show WrapN _ _ _; first
     | (refine WrapN.u64 (by omega) (by omega) ?_; conv => whnf))
  · rename_i hv p hp hp'
    have hp0 : p % 2 ^ r = 0 := by rw [hp.out]; exact Nat.mul_mod_left _ _
    refine BitN.orq c p r rfl rfl hc.out hp0 (by show _ < 4294967296; omega) (by show _ < 4294967296; omega) rfl (fun _ => ?_)
    obtain ⟨s, hs⟩ : ∃ s, s = c + p := ⟨_, rfl⟩
    rw [← hs]
    have hsB : s / 65536 < 2 ^ r := by
      rw [Nat.div_lt_iff_lt_mul (by decide), hs, hp.out]
      have h1 : (dg 65536 m).getD k 0 * 2 ^ r + 2 ^ r ≤ 65536 * 2 ^ r := by
        have := Nat.mul_le_mul_right (2 ^ r) (show (dg 65536 m).getD k 0 + 1 ≤ 65536 by omega)
        rw [Nat.add_mul, Nat.one_mul] at this; exact this
      have := hc.out
      rw [Nat.mul_comm (2 ^ r)]; omega
    have hsB2 : s / 65536 < 32768 := Nat.lt_of_lt_of_le hsB hpr.out
    have hsB3 : s < 4294967296 := by omega
    replace hs := Hq.mk hs
    replace hp0 := Hq.mk hp0
    conv => whnf
    repeat ((first | refine opsI.step ?_ | refine codeI.step ?_); conv => whnf)
    repeat' first
     | (show RemN _ _ _; first
       | (refine RemN.nn (by omega) (by omega) ?_; conv => whnf))
     | (show QuoN _ _ _ _; first
       | (refine QuoN.u32 (by omega) (by omega) (by omega) ?_; conv => whnf))
     | (show App _ _ _ _ _ _ _ _ _; first
       | (refine App.push rfl g (s % 65536) (by omega) (by omega) (by decide) (fun v' L' g' => ?_); conv => whnf))
     | ((first | refine opsI.step ?_ | refine codeI.step ?_); conv => whnf)
     | (intro (_ : Nat); conv => whnf)
     | (show WrapN _ _ _; first
       | (refine WrapN.i64 (by omega) (by omega) ?_; conv => whnf))
    refine ⟨rfl, ln 65536 m - (k + 1), by omega, k + 1, v', _, s / 65536, rfl, rfl, vi (by omega), vi (by omega), rfl, g', by omega, by simp; omega, mem_snoc hoB (Nat.mod_lt _ (by decide)), hsB2, ⟨hsB⟩, ⟨?_⟩⟩
    rw [evl_snoc, hol, evl_take_next, Nat.add_mul, ← heq.out]
    have e3 : 65536 ^ (q + k) * (s % 65536) + s / 65536 * 65536 ^ (q + (k + 1)) = 65536 ^ (q + k) * s := by
      rw [← Nat.add_assoc, Nat.pow_succ, Nat.mul_comm (s / 65536), Nat.mul_assoc, ← Nat.mul_add, Nat.mod_add_div]
    have e4 : 65536 ^ k * (dg 65536 m).getD k 0 * (2 ^ r * 65536 ^ q) = 65536 ^ (q + k) * p := by
      rw [hp.out, Nat.pow_add]; ac_rfl
    have e5 : 65536 ^ (q + k) * s = c * 65536 ^ (q + k) + 65536 ^ (q + k) * p := by rw [hs.out, Nat.mul_add, Nat.mul_comm c]
    rw [e4]; omega
  · obtain rfl : k = ln 65536 m := by omega
    repeat' first
     | (show App _ _ _ _ _ _ _ _ _; first
       | (refine App.push rfl g c (by omega) (by omega) (by decide) (fun v' L' g' => ?_); conv => whnf))
     | ((first | refine opsI.step ?_ | refine codeI.step ?_); conv => whnf)
    have e : evl 65536 (xs ++ [c]) = m * 2 ^ n := by
      rw [evl_snoc, hol, Nat.mul_comm _ c, heq.out, evl_all two_le_b (Nat.le_refl _), hpow.out]
    refine CallN.trim g' (mem_snoc hoB (by omega)) (by simp; omega) fun v3 h3 hle g3 => ?_
    rw [e] at g3
    conv => whnf
    repeat ((first | refine opsI.step ?_ | refine codeI.step ?_); conv => whnf)
    skip
    exact RetN.done g3

theorem FzN.grow {e : TypeId} {kd : IntKind} {P : Heap → Own → Prop} {v : Value} {n : Nat} {xs : List Nat} {h : Heap} {L : Own} (g : GrowS e 1 v n (xs.map (vu kd)) L) (hk : ∀ h' (s : Sl), h.le h' → v = s.val → Ws kd h' s xs → P h' []) : FzN P h L := by
  obtain ⟨rfl, rfl, hx⟩ | ⟨i, b, cap, zs, rfl, h2, h3, h4⟩ := g.out
  · obtain rfl : xs = [] := by simpa using hx
    exact FzN.dropAll (hk h ⟨none, 0, 0⟩ (Heap.le_refl _) rfl (Ws.nil rfl))
  · exact FzN.keep i h2 fun hle => FzN.dropAll (hk _ ⟨some ⟨b, 0, none⟩, n, cap⟩ hle rfl (Ws.grown (by simpa using h4.symm) h3))
theorem NatShl_ct (h : Heap) (a : Sl) (m n : Nat) (ha : IsRef h a m) (la : ln 65536 m ≤ 17179869184) (hn : n ≤ 549755813888) :
    Fn0 T F.ref01_NatShl [a.val, .int .i64 n] h fun v h' => ∃ s : Sl, v = s.val ∧ IsRef h' s (m * 2 ^ n) :=
  Fn0.make (Fn.freeze (NatShl_ow h a m n ha la hn) fun v h' L' hl g => FzN.grow g fun h2 s _ hv w => ⟨rfl, s, hv, w⟩)
end Go.Proofs.YtdemgbmndijkkaaGreatDoor
/- Contracts of the reference's functions on natural numbers (digits to the base 65536), fourth part: the shift to the right, long division. -/
namespace Go.Proofs.YtdemgbmndijkkaaGreatDoor
open Go Go.Vc Go.Dig

theorem getD_snoc (l : List Nat) (x j : Nat) : (l ++ [x]).getD j 0 = if j < l.length then l.getD j 0 else if j = l.length then x else 0 := by
  simp only [List.getD_eq_getElem?_getD]
  split
  · rw [List.getElem?_append_left (by assumption)]
  · rw [List.getElem?_append_right (by omega)]
    split
    · rename_i h; subst h; simp
    · rw [List.getElem?_eq_none (by simp; omega)]; rfl
set_option maxRecDepth 20000 in
set_option maxHeartbeats 1000000 in
theorem NatShr_ct (h : Heap) (a : Sl) (m n : Nat) (ha : IsRef h a m) (la : ln 65536 m ≤ 17179869184) (hn : n ≤ 549755813888) :
    Fn0 T F.ref01_NatShr [a.val, .int .i64 n] h fun v h' => ∃ s : Sl, v = s.val ∧ IsRef h' s (m / 2 ^ n) := by
  have hal := ha.len
  obtain ⟨r, hr⟩ : ∃ r, r = n % 16 := ⟨_, rfl⟩
  obtain ⟨q, hq⟩ : ∃ q, q = n / 16 := ⟨_, rfl⟩
  have hr15 : r ≤ 15 := by omega
  have hpow : Hq (2 ^ n = 2 ^ r * 65536 ^ q) := ⟨by
    rw [show (65536 : Nat) = 2 ^ 16 from rfl, ← Nat.pow_mul, ← Nat.pow_add]; congr 1; omega⟩
  have hdig : Hq (∀ i, m / 2 ^ r / 65536 ^ (q + i) % 65536 = (m / 65536 ^ (q + i) % 65536 + 65536 * (m / 65536 ^ (q + i + 1) % 65536)) / 2 ^ r % 65536) := ⟨fun i => (shr_digit16 hr15).symm⟩
  have hd : ∀ j, (((dg 65536 m).drop q).getD j 0) = m / 65536 ^ (q + j) % 65536 := fun j => by
    rw [List.getD_eq_getElem?_getD, List.getElem?_drop, ← dg_getD two_le_b, List.getD_eq_getElem?_getD]
  refine fn0_of_codeI ok D.ref01_NatShr rfl ?_
  conv => whnf
  repeat ((first | refine opsI.step ?_ | refine codeI.step ?_); conv => whnf)
  repeat' first
   | (show QuoN _ _ _ _; first
     | (refine QuoN.i64 (by omega) (by omega) (by omega) ?_; conv => whnf))
   | (show CutA _ _ _ _ _ _; first
     | (refine CutA.drop (s := a) ha q (by omega) (by omega) (by unfold ln at *; omega) (fun s' w' => ?_); conv => whnf))
   | ((first | refine opsI.step ?_ | refine codeI.step ?_); conv => whnf)
   | (show cnd _ _ _; first
     | (refine cnd_lt (fun _ => ?_) (fun _ => ?_) <;> first | (exfalso; omega) | (conv => whnf))
     | (refine cnd_le (fun _ => ?_) (fun _ => ?_) <;> first | (exfalso; omega) | (conv => whnf)))
  · have : m < 65536 ^ q := (ln_le_iff two_le_b).1 (by omega)
    have h0 : m / 2 ^ n = 0 := by
      rw [hpow.out]
      refine Nat.div_eq_of_lt (Nat.lt_of_lt_of_le this (Nat.le_mul_of_pos_left _ (Nat.two_pow_pos r)))
    exact RetN.all ⟨⟨none, 0, 0⟩, rfl, by rw [h0]; unfold IsRef; rw [dg_zero]; exact Ws.nil rfl⟩
  obtain ⟨dl, hdl⟩ : ∃ dl, dl = (dg 65536 m).drop q := ⟨_, rfl⟩
  rw [← hdl] at w' hd
  have hwl := w'.len
  have hdll : dl.length = ln 65536 m - q := by rw [hdl]; simp [ln]
  have hdB : ∀ x ∈ dl, x < 65536 := by rw [hdl]; exact drop_lt (dg_lt two_le_b m)
  have hdB2 := fun i => getD_lt (b := 65536) (by decide) hdB i
  repeat' first
   | (show Mk _ _ _; first
     | (refine Mk.of 0 (by omega) (by omega) (by omega) ?_; conv => whnf)
     | (refine Mk.of (ln 65536 m - q) (by omega) (by omega) (by omega) ?_; conv => whnf))
   | (refine ⟨Nat.zero_le _, ?_⟩; conv => whnf)
   | ((first | refine opsI.step ?_ | refine codeI.step ?_); conv => whnf)
   | (intro (_ : Nat); conv => whnf)
  replace hd := Hq.mk hd
  refine LoopN.of (fun d ρ h' L => ∃ (k : Nat) (v : Value) (xs : List Nat), d = ln 65536 m - q - k ∧ h' = h ∧ rd ρ 26 = .int .i64 k ∧ rd ρ 5 = v ∧ GrowS Ty.uint32 1 v k (xs.map (vu .u32)) L ∧ k ≤ ln 65536 m - q ∧ xs.length = k ∧ (∀ x ∈ xs, x < 65536) ∧ Hq (∀ j, j < k → xs.getD j 0 = m / 2 ^ r / 65536 ^ (q + j) % 65536)) (ln 65536 m - q)
    ⟨0, _, [], rfl, rfl, rfl, rfl, GrowS.new 0 rfl, by omega, rfl, by simp, ⟨fun j hj => by omega⟩⟩ ?_
  conv => whnf
  repeat intro _
  rename_i rr h2 L2 hI
  obtain ⟨k, v, xs, rfl, rfl, e0, e1, g, hk, hol, hoB, heq⟩ := hI
  conv at e0 => lhs; whnf
  subst e0
  conv at e1 => lhs; whnf
  subst e1
  have hda := hdB2 k
  have hdb := hdB2 (k + 1)
  have hz : k + 1 < dl.length ∨ dl.getD (k + 1) 0 = 0 := by
    rcases Nat.lt_or_ge (k + 1) dl.length with hh | hh
    · exact .inl hh
    · exact .inr (getD_out hh)
  obtain ⟨p, hp⟩ : ∃ p, p = dl.getD (k + 1) 0 * 65536 := ⟨_, rfl⟩
  obtain ⟨s, hs⟩ : ∃ s, s = dl.getD k 0 + p := ⟨_, rfl⟩
  have hval : Hq (s / 2 ^ r % 65536 = m / 2 ^ r / 65536 ^ (q + k) % 65536) := ⟨by
    rw [hdig.out, hs, hp, hd.out, hd.out, Nat.mul_comm _ 65536, Nat.add_assoc q]⟩
  replace hd := hd.out
  clear hd
  conv => whnf
  repeat ((first | refine opsI.step ?_ | refine codeI.step ?_); conv => whnf)
  repeat' first
   | (show SeqN _ _ _ _ _ _ _; first
     | (refine SeqN.go ?_; conv => whnf))
   | (show Idx _ _ _ _ _; first
     | (refine Idx.ws w' k (by omega) (by omega) (fun ad hv => ?_); conv => whnf)
     | (refine Idx.ws w' (k + 1) (by omega) (by omega) (fun ad hv => ?_); conv => whnf))
   | (show Ld _ _ _ _; first
     | (refine Ld.of (by first | exact hv _ | (rename_i hv; exact hv _)) ?_; conv => whnf))
   | (show WrapN _ _ _; first
     | (refine WrapN.u32v p (by omega) ?_; conv => whnf)
     | (refine WrapN.u32v s (by omega) ?_; conv => whnf)
     | (refine WrapN.i64 (by omega) (by omega) ?_; conv => whnf))
   | ((first | refine opsI.step ?_ | refine codeI.step ?_); conv => whnf)
   | (show cnd _ _ _; first
     | (refine cnd_lt (fun _ => ?_) (fun _ => ?_) <;> first | (exfalso; omega) | (conv => whnf)))
  rotate_right
  · obtain rfl : k = ln 65536 m - q := by omega
    refine CallN.grow g rfl fun h' L' s hle hv w => ?_
    rw [hv]
    refine CallN.fn rfl (trim_ct _ s xs w hoB (by omega)) (fun v h' hl hr => ?_)
    obtain ⟨s', rfl, hs⟩ := hr
    conv => whnf
    repeat ((first | refine opsI.step ?_ | refine codeI.step ?_); conv => whnf)
    refine RetN.all ⟨s', rfl, ?_⟩
    have e := evl_digits (b := 65536) two_le_b (N := m / 2 ^ r) (l := xs) (s := q) (fun i hi => heq.out i (by omega))
    have e2 : m / 2 ^ r / 65536 ^ q = m / 2 ^ n := by rw [Nat.div_div_eq_div_mul, hpow.out]
    rw [e2, Nat.mod_eq_of_lt] at e
    · rwa [e] at hs
    · rw [hol, hpow.out, Nat.mul_comm, ← Nat.div_div_eq_div_mul]
      refine Nat.lt_of_le_of_lt (Nat.div_le_self _ _) ?_
      rw [Nat.div_lt_iff_lt_mul (Nat.pow_pos (by decide)), ← Nat.pow_add]
      exact Nat.lt_of_lt_of_le (lt_pow_ln two_le_b m) (Nat.pow_le_pow_right (by decide) (by omega))
  all_goals
    repeat' first
     | (show RemN _ _ _; first
       | (refine RemN.nn (by omega) (by omega) ?_; conv => whnf))
     | (show ShrN _ _ _ _; first
       | (refine ShrN.sym (x := s) (r := r) (by omega) (by omega) (by show r ≤ 32; omega) (fun zz hzz hzz' => ?_); conv => whnf))
     | (show App _ _ _ _ _ _ _ _ _; first
       | (refine App.push rfl g (zz % 65536) (by omega) (by omega) (by decide) (fun v' L' g' => ?_); conv => whnf))
     | ((first | refine opsI.step ?_ | refine codeI.step ?_); conv => whnf)
     | (intro (_ : Nat); conv => whnf)
     | (show WrapN _ _ _; first
       | (refine WrapN.i64 (by omega) (by omega) ?_; conv => whnf)
       | (refine WrapN.u64 (by omega) (by omega) ?_; conv => whnf))
    refine ⟨rfl, ln 65536 m - q - (k + 1), by omega, k + 1, v', _, rfl, rfl, vi (by omega), rfl, g', by omega, by simp; omega, mem_snoc hoB (Nat.mod_lt _ (by decide)), ⟨fun j hj => ?_⟩⟩
    rw [getD_snoc]
    split
    · exact heq.out j (by omega)
    · obtain rfl : j = k := by omega
      rw [if_pos (by omega), hzz.out]; exact hval.out

set_option maxRecDepth 20000 in
theorem less_ct (h : Heap) (u v : Sl) (l : List Nat) (Dv g : Nat) (hu : Ws .u32 h u l) (hlB : ∀ x ∈ l, x < 65536) (hm : l.length ≤ 17179869184) (hv : IsRef h v Dv) (lD : ln 65536 Dv ≤ 8589934592) (hg : g < 18446744073709551616) :
    Fn0 T F.ref01_less [u.val, v.val, .int .u64 g] h fun v _ => v = .bool (dec (evl 65536 l < Dv * g)) := by
  have lg : ln 65536 g ≤ 4 := (ln_le_iff two_le_b).2 (by omega)
  have p1 := ln_mul two_le_b Dv g
  have p2 := (trim_take hlB).1
  have c1 := fun (hh : evl 65536 l < Dv * g) => cmp_lt0 hh
  have c2 := fun (hh : Dv * g ≤ evl 65536 l) => cmp_ge0 hh
  refine fn0_of_codeI ok D.ref01_less rfl ?_
  conv => whnf
  repeat ((first | refine opsI.step ?_ | refine codeI.step ?_); conv => whnf)
  repeat' first
   | (show CallN _ _ _ _ _ _; first
     | (refine CallN.fn rfl (NatOf_ct _ g hg) (fun v h' hl hr => ?_); obtain ⟨s', rfl, hs'⟩ := hr; conv => whnf)
     | (refine CallN.fn rfl (NatMul_ct _ _ _ Dv g (by (iterate 30 (try first | assumption | refine IsRef.mono ?_ (by assumption))); first | done | assumption) (by assumption) (by omega) (by omega)) (fun v h' hl hr => ?_); obtain ⟨t', rfl, ht'⟩ := hr; conv => whnf)
     | (refine CallN.fn rfl (trim_ct _ _ l (by (iterate 30 (try first | assumption | refine Ws.mono ?_ (by assumption))); first | done | assumption) hlB (by omega)) (fun v h' hl hr => ?_); obtain ⟨z', rfl, hz'⟩ := hr; conv => whnf)
     | (refine CallN.quiet rfl (NatCmp_ct _ _ _ _ _ (by assumption) (by (iterate 30 (try first | assumption | refine Ws.mono ?_ (by assumption))); first | done | assumption) (by omega) (by omega)) ?_; conv => whnf))
   | ((first | refine opsI.step ?_ | refine codeI.step ?_); conv => whnf)
  refine RetN.all ?_
  by_cases hh : evl 65536 l < Dv * g
  · rw [dec_true hh, c1 hh] <;> rw [lt_true' (by decide)]
  · rw [dec_false hh, lt_false' (c2 (by omega)).1]
end Go.Proofs.YtdemgbmndijkkaaGreatDoor
/- Contracts of the reference's functions on natural numbers (digits to the base 65536), fifth part: one digit of long division. -/
namespace Go.Vc
open Go Go.Dig
/-- own memory that holds numbers, and something behind them -/
abbrev RowZ (kd : IntKind) (T : TypeId) (o : List Nat) (zs : List Value) : Obj := .cells (o.map (vu kd) ++ zs).toArray T (0, 0)
theorem rowz_get {kd : IntKind} {o : List Nat} {zs : List Value} {j : Nat} (hj : j < o.length) : (o.map (vu kd) ++ zs).toArray[j]? = some (.int kd ((o.getD j 0 : Nat) : Int)) := by
  rw [List.getElem?_toArray, List.getElem?_append_left (by simpa using hj)]
  simp [hj, vu, List.getD_eq_getElem?_getD]
theorem Ld.winZ {h : Heap} {L : Own} {b i : Nat} {k : Value → Prop} {kd : IntKind} {T : TypeId} {p u : List Nat} {zs : List Value} (n : Nat) (hb : L[n]? = some (b, RowZ kd T (p ++ u) zs)) (ho : i < u.length) (hk : k (.int kd ((u.getD i 0 : Nat) : Int))) : Ld h L ⟨b, p.length + i, none⟩ k :=
  Ld.own n hb (rowz_get (by simp; omega)) (by rw [win_get ho]; exact hk)
theorem Sto.winZ {L : Own} {b i : Nat} {kd : IntKind} {T : TypeId} {p u : List Nat} {zs : List Value} {v : Int} {k : Own → Prop} (n : Nat) (hb : L[n]? = some (b, RowZ kd T (p ++ u) zs)) (x : Nat) (hx : v = x) (hl : i < u.length)
    (hk : setK (b, RowZ kd T (p ++ u.set i x) zs) L n k) : Sto L ⟨b, p.length + i, none⟩ [.int kd v] k := by
  subst hx
  refine Sto.sym n hb (by simp; omega) rfl ?_
  have : ((p ++ u).map (vu kd) ++ zs).set (p.length + i) (.int kd x) = (p ++ u.set i x).map (vu kd) ++ zs := by
    rw [List.set_append_left _ _ (by simp; omega), ← win_set, List.map_set]; rfl
  rw [this]; exact hk
end Go.Vc
namespace Go.Dig
theorem guess16 {P top v1 D U dl ul : Nat} (hD : D = dl + P * v1) (hU : U = ul + P * top) (hul : ul < P) (hv : 0 < v1) : U / D ≤ top / v1 := by
  have hP : 0 < P := by omega
  rw [Nat.le_div_iff_mul_le hv]
  have h1 : U / D * D ≤ U := Nat.div_mul_le_self _ _
  have h2 : U / D * (P * v1) ≤ U / D * D := by
    refine Nat.mul_le_mul_left _ ?_
    rw [hD]; exact Nat.le_add_left _ _
  have h3 : P * (U / D * v1) < P * (top + 1) := by
    rw [Nat.mul_left_comm, Nat.mul_add, Nat.mul_one]; omega
  have := Nat.lt_of_mul_lt_mul_left h3
  omega
theorem sub16_step {b : Nat} {w u dd : List Nat} {k e e' G x : Nat} (hk : k < w.length) (hx : x + G * dd.getD k 0 + e = u.getD k 0 + e' * b)
    (h : evl b (w.take k) + G * evl b (dd.take k) = evl b (u.take k) + e * b ^ k) :
    evl b ((w.set k x).take (k + 1)) + G * evl b (dd.take (k + 1)) = evl b (u.take (k + 1)) + e' * b ^ (k + 1) := by
  rw [evl_take_set _ hk, evl_take_next dd, evl_take_next u, Nat.mul_add, Nat.pow_succ]
  have e1 : e * b ^ k = b ^ k * e := Nat.mul_comm _ _
  have e2 : G * (b ^ k * dd.getD k 0) = b ^ k * (G * dd.getD k 0) := Nat.mul_left_comm _ _ _
  have e3 : e' * (b ^ k * b) = b ^ k * (e' * b) := by rw [Nat.mul_left_comm]
  have e4 : b ^ k * (x + G * dd.getD k 0 + e) = b ^ k * (u.getD k 0 + e' * b) := by rw [hx]
  simp only [Nat.mul_add] at e4
  rw [e1] at h
  rw [e2, e3]
  omega
end Go.Dig
namespace Go.Proofs.YtdemgbmndijkkaaGreatDoor
open Go Go.Vc Go.Dig

set_option maxRecDepth 20000 in
set_option maxHeartbeats 2000000 in
theorem rdigit_ct (h : Heap) (b cap : Nat) (p u : List Nat) (zs : List Value) (d : Sl) (Dv m : Nat) (hd : IsRef h d Dv) (hm : ln 65536 Dv = m + 1) (la : ln 65536 Dv ≤ 8589934592) (hul : m + 2 ≤ u.length) (hpl : p.length ≤ 17179869184) (huB : ∀ x ∈ u, x < 65536) (hUD : evl 65536 u < Dv * 65536) (hcap : m + 2 ≤ cap) :
    Vc.Fn T F.ref01_digit [.slice (some ⟨b, p.length, none⟩) (m + 2) cap, d.val] h [(b, RowZ .u32 Ty.uint32 (p ++ u) zs)] fun v h' L' => ∃ u' : List Nat, L' = [(b, RowZ .u32 Ty.uint32 (p ++ u') zs)] ∧ v = .int .u32 (evl 65536 u / Dv : Nat) ∧ u'.length = u.length ∧ (∀ x ∈ u', x < 65536) ∧ evl 65536 u' = evl 65536 u % Dv := by
  have hdl := hd.len
  have hv1B := dg_getD_lt two_le_b Dv m
  have hu0 := getD_lt (b := 65536) (by omega) huB (m + 1)
  have hu1 := getD_lt (b := 65536) (by omega) huB m
  have hD0 : 0 < Dv := by
    rcases Nat.eq_zero_or_pos Dv with h0 | h0
    · rw [h0, ln_zero] at hm; omega
    · exact h0
  have hDB : Dv < 65536 ^ (m + 1) := by rw [← hm]; exact lt_pow_ln two_le_b Dv
  have hv1 : 0 < (dg 65536 Dv).getD m 0 := by
    rw [dg_getD two_le_b, Nat.mod_eq_of_lt]
    · exact Nat.div_pos (pow_le_of_ln two_le_b (by omega)) (Nat.pow_pos (by decide))
    · rw [Nat.div_lt_iff_lt_mul (Nat.pow_pos (by decide)), Nat.mul_comm, ← Nat.pow_succ]; exact hDB
  have htop : Hq (evl 65536 (u.drop (m + 2)) = 0) := ⟨by
    rw [evl_div two_le_b huB]
    refine Nat.div_eq_of_lt (Nat.lt_of_lt_of_le hUD ?_)
    rw [Nat.pow_succ 65536 (m + 1)]; exact Nat.mul_le_mul_right _ (Nat.le_of_lt hDB)⟩
  have hUt : Hq (evl 65536 u = evl 65536 (u.take (m + 2))) := ⟨by rw [evl_split hul, htop.out, Nat.mul_zero, Nat.add_zero]⟩
  obtain ⟨un, hun⟩ : ∃ un, un = u.getD (m + 1) 0 := ⟨_, rfl⟩
  obtain ⟨u1, hu1e⟩ : ∃ u1, u1 = u.getD m 0 := ⟨_, rfl⟩
  obtain ⟨v1, hv1e⟩ : ∃ v1, v1 = (dg 65536 Dv).getD m 0 := ⟨_, rfl⟩
  obtain ⟨top, htp⟩ : ∃ top, top = un * 65536 + u1 := ⟨_, rfl⟩
  obtain ⟨t0, ht0⟩ : ∃ t0, t0 = un * 65536 := ⟨_, rfl⟩
  obtain ⟨g0, hg0⟩ : ∃ g0, g0 = top / v1 := ⟨_, rfl⟩
  obtain ⟨q, hq⟩ : ∃ q, q = evl 65536 u / Dv := ⟨_, rfl⟩
  obtain ⟨U, hU⟩ : ∃ U, U = evl 65536 u := ⟨_, rfl⟩
  have hqB : q < 65536 := by rw [hq]; exact (Nat.div_lt_iff_lt_mul hD0).2 (by rw [Nat.mul_comm]; exact hUD)
  have hqg : q ≤ g0 := by
    rw [hq, hg0, htp, hun, hu1e, hv1e]
    refine guess16 (P := 65536 ^ m) (dl := evl 65536 ((dg 65536 Dv).take m)) (ul := evl 65536 (u.take m)) ?_ ?_ ?_ hv1
    · rw [← evl_take_next, ← hm]; exact (evl_all two_le_b (Nat.le_refl _)).symm
    · rw [hUt.out, top2]
    · have := evl_lt two_le_b (l := u.take m) fun x hx => huB x (List.mem_of_mem_take hx)
      rwa [show (u.take m).length = m by simp; omega] at this
  have hgb : g0 ≤ top := by rw [hg0]; exact Nat.div_le_self _ _
  have eq1 : ((top : Int) / (v1 : Int)) = (g0 : Int) := by rw [hg0]; rfl
  have hlq : ∀ g, ¬ (U < Dv * g) → g ≤ q := fun g hh => by
    rw [hq, ← hU, Nat.le_div_iff_mul_le hD0, Nat.mul_comm]; omega
  have hlq2 : ∀ g, U < Dv * g → q < g := fun g hh => by
    rw [hq, ← hU, Nat.div_lt_iff_lt_mul hD0, Nat.mul_comm]; exact hh
  have hmod : Hq (q * Dv + U % Dv = U ∧ U % Dv < Dv) := ⟨by rw [hq, ← hU, Nat.mul_comm]; exact ⟨Nat.div_add_mod _ _, Nat.mod_lt _ hD0⟩⟩
  rw [← hq]
  rw [← hun] at hu0
  rw [← hu1e] at hu1
  rw [← hv1e] at hv1B hv1
  replace hg0 := Hq.mk hg0
  replace hq := Hq.mk hq
  replace hun := Hq.mk hun
  replace hu1e := Hq.mk hu1e
  replace hv1e := Hq.mk hv1e
  replace hlq := Hq.mk hlq
  replace hlq2 := Hq.mk hlq2
  replace hUD := Hq.mk hUD
  replace hDB := Hq.mk hDB
  replace huB := Hq.mk huB
  refine fn_of_codeI ok D.ref01_digit rfl ?_
  conv => whnf
  repeat ((first | refine opsI.step ?_ | refine codeI.step ?_); conv => whnf)
  repeat' first
   | (show WrapN _ _ _; first
     | (refine WrapN.u64w t0 (by omega) ?_; conv => whnf)
     | (refine WrapN.u64w top (by omega) ?_; conv => whnf)
     | (refine WrapN.i64 (by omega) (by omega) ?_; conv => whnf)
     | (refine WrapN.u64 (by omega) (by omega) ?_; conv => whnf))
   | (show QuoN _ _ _ _; first
     | (refine QuoN.u64 (by omega) (by omega) (by omega) ?_; rw [eq1]; conv => whnf))
   | (show Idx _ _ _ _ _; first
     | (refine Idx.one (m + 1) rfl (by omega) (by omega) ?_; conv => whnf)
     | (refine Idx.one m rfl (by omega) (by omega) ?_; conv => whnf)
     | (refine Idx.ws hd m (by omega) (by unfold ln at *; omega) (fun ad hv => ?_); conv => whnf))
   | (show Ld _ _ _ _; first
     | (refine Ld.winZ 0 rfl (by omega) ?_; first | rw [← hun.out] | rw [← hu1e.out]; conv => whnf)
     | (refine Ld.of (by first | exact hv _ | (rename_i hv; exact hv _)) ?_; rw [← hv1e.out]; conv => whnf))
   | ((first | refine opsI.step ?_ | refine codeI.step ?_); conv => whnf)
   | (show DrawN _ _ _ _ _ _; first
     | (refine DrawN.run (by decide +kernel) ?_; conv => whnf))
  refine SeqN.cut (fun ρ h' L => ∃ G : Nat, h' = h ∧ L = [(b, RowZ .u32 Ty.uint32 (p ++ u) zs)] ∧ rd ρ 7 = .int .u64 G ∧ q ≤ G ∧ G < 65536) ?_ ?_
  · conv => whnf
    repeat ((first | refine opsI.step ?_ | refine codeI.step ?_); conv => whnf)
    repeat' first
     | ((first | refine opsI.step ?_ | refine codeI.step ?_); conv => whnf)
     | (show cnd _ _ _; first
       | (refine cnd_le (fun _ => ?_) (fun _ => ?_) <;> first | (exfalso; omega) | (conv => whnf)))
    · exact ⟨rfl, 65536 - 1, rfl, rfl, rfl, by omega, by omega⟩
    · exact ⟨rfl, g0, rfl, rfl, rfl, by omega, by omega⟩
  conv => whnf
  repeat intro _
  rename_i h1 L1 hJ
  obtain ⟨G, rfl, rfl, e0, hqG, hGb⟩ := hJ
  conv at e0 => lhs; whnf
  subst e0
  conv => whnf
  repeat ((first | refine opsI.step ?_ | refine codeI.step ?_); conv => whnf)
  have hw : ∀ h' : Heap, Ws .u32 (h'.put b (RowZ .u32 Ty.uint32 (p ++ u) zs)) ⟨some ⟨b, p.length, none⟩, m + 2, cap⟩ (u.take (m + 2)) := fun h' =>
    ⟨by simp; omega, hcap, fun _ => ⟨b, p.length, ((p ++ u).map (vu .u32) ++ zs).toArray, Ty.uint32, (0, 0), rfl, by simp only [Heap.put, if_true], fun j hj => by
      have hj2 : j < m + 2 ∧ j < u.length := by simp at hj; omega
      rw [rowz_get (by simp; omega), win_get hj2.2]
      simp [List.getD_eq_getElem?_getD, List.getElem?_take, hj2.1]⟩⟩
  have htB : ∀ x ∈ u.take (m + 2), x < 65536 := fun x hx => huB.out x (List.mem_of_mem_take hx)
  have hdu : IsRef h1 d Dv := hd
  replace htB := Hq.mk htB
  replace hw := Hq.mk hw
  refine LoopN.of (fun r ρ h' L => h1.le h' ∧ L = [(b, RowZ .u32 Ty.uint32 (p ++ u) zs)] ∧ rd ρ 7 = .int .u64 r ∧ q ≤ r ∧ r < 65536) G ⟨Heap.le_refl _, rfl, rfl, hqG, hGb⟩ ?_
  conv => whnf
  repeat intro _
  rename_i r h2 L2 hI
  obtain ⟨hle2, rfl, e0, hqr, hrb⟩ := hI
  conv at e0 => lhs; whnf
  subst e0
  conv => whnf
  repeat ((first | refine opsI.step ?_ | refine codeI.step ?_); conv => whnf)
  skip
  refine CallN.lend 0 rfl rfl (fun hle3 => less_ct _ ⟨some ⟨b, p.length, none⟩, m + 2, cap⟩ d (u.take (m + 2)) Dv r (hw.out _) htB.out (by simp; omega) ((hdu.mono hle2).mono hle3) la (by omega)) fun v h3 hle3 e => ?_
  rw [e, ← hUt.out, ← hU]
  clear e
  conv => whnf
  repeat ((first | refine opsI.step ?_ | refine codeI.step ?_); conv => whnf)
  refine cnd_dec (fun hlt => ?_) (fun hge => ?_)
  · have := hlq2.out _ hlt
    conv => whnf
    repeat ((first | refine opsI.step ?_ | refine codeI.step ?_); conv => whnf)
    repeat' first
     | ((first | refine opsI.step ?_ | refine codeI.step ?_); conv => whnf)
     | (show WrapN _ _ _; first
       | (refine WrapN.u64 (by omega) (by omega) ?_; conv => whnf))
    exact ⟨rfl, r - 1, by omega, Heap.le_trans hle2 hle3, rfl, vi (by omega), by omega, by omega⟩
  · obtain rfl : r = q := by have := hlq.out _ hge; omega
    conv => whnf
    repeat ((first | refine opsI.step ?_ | refine codeI.step ?_); conv => whnf)
    skip
    clear hge hqG hqr hqg hlq hlq2 hw htB hv hgb eq1
    refine LoopN.of (fun t ρ h' L => ∃ (k : Nat) (w : List Nat) (e : Nat), t = m + 2 - k ∧ h' = h3 ∧ L = [(b, RowZ .u32 Ty.uint32 (p ++ w) zs)] ∧ rd ρ 44 = .int .i64 k ∧ rd ρ 8 = .int .i64 (-(e : Int)) ∧ k ≤ m + 2 ∧ w.length = u.length ∧ (∀ x ∈ w, x < 65536) ∧ e < 65536 ∧ Hq (w.drop k = u.drop k) ∧ Hq (evl 65536 (w.take k) + r * evl 65536 ((dg 65536 Dv).take k) = evl 65536 (u.take k) + e * 65536 ^ k)) (m + 2)
      ⟨0, u, 0, rfl, rfl, rfl, rfl, rfl, by omega, rfl, huB.out, by omega, ⟨rfl⟩, ⟨by simp [evl_nil]⟩⟩ ?_
    conv => whnf
    repeat intro _
    rename_i t h4 L4 hI
    obtain ⟨k, w, e, rfl, rfl, rfl, e0, e1, hk, hwl, hwB, heB, hwd, heq⟩ := hI
    conv at e0 => lhs; whnf
    subst e0
    conv at e1 => lhs; whnf
    subst e1
    have hdk := dg_getD_lt two_le_b Dv k
    have hz := ln_or16 k Dv
    have huk := getD_lt (b := 65536) (by omega) huB.out k
    have hwk : Hq (w.getD k 0 = u.getD k 0) := ⟨getD_of_drop hwd.out (Nat.le_refl _)⟩
    have hdd := (hdu.mono hle2).mono hle3
    obtain ⟨x, hx⟩ : ∃ x, x = u.getD k 0 := ⟨_, rfl⟩
    obtain ⟨y, hy⟩ : ∃ y, y = (dg 65536 Dv).getD k 0 := ⟨_, rfl⟩
    rw [← hx] at huk hwk
    rw [← hy] at hz hdk
    replace hx := Hq.mk hx
    replace hy := Hq.mk hy
    have hprod : r * y ≤ 65535 * 65535 := Nat.mul_le_mul (by omega) (by omega)
    obtain ⟨P, hP⟩ : ∃ P, P = r * y := ⟨_, rfl⟩
    rw [← hP] at hprod
    have hP0 : y = 0 → P = 0 := fun h0 => by rw [hP, h0, Nat.mul_zero]
    have hPi : (r : Int) * (y : Int) = (P : Int) := by rw [hP]; push_cast; rfl
    replace hP := Hq.mk hP
    conv => whnf
    repeat ((first | refine opsI.step ?_ | refine codeI.step ?_); conv => whnf)
    repeat' first
     | (show SeqN _ _ _ _ _ _ _; first
       | (refine SeqN.go ?_; conv => whnf))
     | (show WrapN _ _ _; first
       | (refine WrapN.i64 (by omega) (by omega) ?_; conv => whnf)
       | (refine WrapN.u32 (by omega) (by omega) ?_; conv => whnf))
     | (show Idx _ _ _ _ _; first
       | (refine Idx.one k rfl (by omega) (by omega) ?_; conv => whnf)
       | (refine Idx.ws hdd k (by omega) (by unfold ln at *; omega) (fun ad hv => ?_); conv => whnf))
     | (show Ld _ _ _ _; first
       | (refine Ld.winZ 0 rfl (by omega) ?_; rw [hwk.out]; conv => whnf)
       | (refine Ld.of (by first | exact hv _ | (rename_i hv; exact hv _)) ?_; rw [← hy.out]; conv => whnf))
     | (show BitN _ _ _ _ _; first
       | (refine BitN.mask16 (by omega) (by omega) (fun d hd => ?_); conv => whnf))
     | ((first | refine opsI.step ?_ | refine codeI.step ?_); conv => whnf)
     | (show cnd _ _ _; first
       | (refine cnd_lt (fun _ => ?_) (fun _ => ?_) <;> first | (exfalso; omega) | (conv => whnf)))
    rotate_right
    · obtain rfl : k = m + 2 := by omega
      have hE := heq.out
      rw [evl_all two_le_b (show ln 65536 Dv ≤ m + 2 by omega), ← hUt.out, ← hU] at hE
      have hlow := evl_low two_le_b hwB (k := m + 2) (by omega)
      obtain ⟨m1, m2⟩ := hmod.out
      have e0 : e = 0 := by
        rcases Nat.eq_zero_or_pos e with h0 | h0
        · exact h0
        · have h5 : 1 * 65536 ^ (m + 2) ≤ e * 65536 ^ (m + 2) := Nat.mul_le_mul_right _ h0
          have h6 : Dv < 65536 ^ (m + 2) := Nat.lt_of_lt_of_le hDB.out (Nat.pow_le_pow_right (by decide) (by omega))
          omega
      subst e0
      refine RetN.done ⟨w, rfl, rfl, hwl, hwB, ?_⟩
      rw [evl_split (k := m + 2) (l := w) (by omega), hwd.out, htop.out]
      omega
    all_goals
      rename_i d hd
      refine Sto.winZ 0 rfl d rfl (by omega) ?_
      conv => whnf
      repeat ((first | refine opsI.step ?_ | refine codeI.step ?_); conv => whnf)
      repeat' first
       | (show ShrN _ _ _ _; first
         | (refine ShrN.i16 (by decide) (fun z hz' => ?_); conv => whnf))
       | ((first | refine opsI.step ?_ | refine codeI.step ?_); conv => whnf)
       | (show WrapN _ _ _; first
         | (refine WrapN.i64 (by omega) (by omega) ?_; conv => whnf))
      have hdB : d < 65536 := by omega
      have hze : z ≤ 0 ∧ -65535 ≤ z := by omega
      have hzd : (d : Int) + P + e = x + (-z) * 65536 := by omega
      obtain ⟨e', he'⟩ : ∃ e' : Nat, z = -(e' : Int) := ⟨(-z).toNat, by omega⟩
      subst he'
      clear hz' hd
      refine ⟨rfl, m + 2 - (k + 1), by omega, k + 1, w.set k d, e', rfl, rfl, rfl, vi (by omega), rfl, by omega, by simp [hwl], mem_set_lt hwB hdB, by omega, ⟨drop_of_drop hwd.out⟩, ⟨sub16_step (by omega) ?_ heq.out⟩⟩
      rw [← hx.out, ← hy.out, ← hP.out]; omega
end Go.Proofs.YtdemgbmndijkkaaGreatDoor
/- Contracts of the reference's functions on natural numbers (digits to the base 65536), sixth part: long division, the greatest common divisor. -/
namespace Go.Vc
open Go
/-- what could be read can be read behind a call for which own memory was let go -/
theorem HasLe.keep {h h' : Heap} {L : Own} {n b : Nat} {o : Obj} (hn : L[n]? = some (b, o)) (hle : h.le (h.put b o)) (hl : (h.put b o).le h') : HasLe h L h' (L.eraseIdx n) := fun a v ⟨h1, c, T, fz, h2, h3⟩ => by
  refine ⟨h1, c, T, fz, ?_, h3⟩
  rcases h2 with h2 | h2
  · exact .inl (hl _ _ (hle _ _ h2))
  · obtain ⟨j, hj, he⟩ := List.getElem_of_mem h2
    by_cases hjn : j = n
    · subst hjn
      rw [List.getElem?_eq_getElem hj, he] at hn
      cases hn
      exact .inl (hl _ _ (by simp [Heap.put]))
    · exact .inr (List.mem_eraseIdx_iff_getElem.2 ⟨j, hj, hjn, he⟩)
end Go.Vc
namespace Go.Dig
theorem div_start16 {b E D le ld : Nat} (hb : 2 ≤ b) (hE : E < b ^ le) (hD : b ^ (ld - 1) ≤ D) (h1 : 1 ≤ ld) (hle : ld ≤ le) : E / b ^ (le + 1 - ld) < D := by
  rw [Nat.div_lt_iff_lt_mul (Nat.pow_pos (by omega))]
  have e : b ^ le = b ^ (ld - 1) * b ^ (le + 1 - ld) := by rw [← Nat.pow_add]; congr 1; omega
  rw [e] at hE
  exact Nat.lt_of_lt_of_le hE (Nat.mul_le_mul_right _ hD)
theorem evl_low_of_lt {b : Nat} (hb : 2 ≤ b) {l : List Nat} {k : Nat} (h : ∀ x ∈ l, x < b) (hlt : evl b l < b ^ k) : evl b (l.take k) = evl b l := by
  rcases Nat.le_total l.length k with hk | hk
  · rw [List.take_of_length_le hk]
  · have e := evl_split (b := b) hk
    rw [evl_div hb h, Nat.div_eq_of_lt hlt, Nat.mul_zero, Nat.add_zero] at e
    exact e.symm
end Go.Dig
namespace Go.Proofs.YtdemgbmndijkkaaGreatDoor
open Go Go.Vc Go.Dig
theorem one_digit16 {n : Nat} (h : ln 65536 n = 1) : (dg 65536 n).getD 0 0 = n ∧ 0 < n ∧ n < 65536 := by
  obtain ⟨x, hx⟩ : ∃ x, dg 65536 n = [x] := List.length_eq_one_iff.1 h
  have e := evl_dg two_le_b n
  rw [hx] at e
  have e : x = n := by simpa [evl_cons, evl_nil] using e
  have hlt := dg_lt two_le_b n x (by simp [hx])
  subst e
  refine ⟨by rw [hx]; rfl, ?_, hlt⟩
  rcases Nat.eq_zero_or_pos x with h0 | h0
  · rw [h0, ln_zero] at h; omega
  · exact h0
theorem ln_shl16 {m s : Nat} (hs : s ≤ 15) : ln 65536 (m * 2 ^ s) ≤ ln 65536 m + 1 := by
  have h1 : ln 65536 (2 ^ s) ≤ 1 := (ln_le_iff two_le_b).2 (Nat.lt_of_le_of_lt (Nat.pow_le_pow_right (by omega) hs) (by decide))
  have h2 := ln_mul two_le_b m (2 ^ s)
  omega

set_option maxRecDepth 20000 in
set_option maxHeartbeats 4000000 in
theorem NatDiv_ct (h : Heap) (a b : Sl) (m n : Nat) (ha : IsRef h a m) (hb : IsRef h b n) (la : ln 65536 m ≤ 4294967296) (lb : ln 65536 n ≤ 4294967296) (h0 : n ≠ 0) :
    Fn0 T F.ref01_NatDiv [a.val, b.val] h fun v h' => ∃ q r : Sl, v = .tuple #[q.val, r.val] ∧ IsRef h' q (m / n) ∧ IsRef h' r (m % n) := by
  have hal := ha.len
  have hbl := hb.len
  have hn1 : 1 ≤ ln 65536 n := Nat.pos_of_ne_zero fun e => h0 ((ln_eq_zero two_le_b).1 e)
  have hd1 := dg_getD_lt two_le_b n 0
  have hdt := dg_getD_lt two_le_b n (ln 65536 n - 1)
  have htop : 0 < (dg 65536 n).getD (ln 65536 n - 1) 0 := by
    have h1 := le_bl h0
    rw [dg_getD two_le_b, Nat.mod_eq_of_lt]
    · exact Nat.div_pos (pow_le_of_ln two_le_b (by omega)) (Nat.pow_pos (by decide))
    · rw [Nat.div_lt_iff_lt_mul (Nat.pow_pos (by decide)), Nat.mul_comm, ← Nat.pow_succ, show (ln 65536 n - 1).succ = ln 65536 n by omega]; exact lt_pow_ln two_le_b n
  refine fn0_of_codeI ok D.ref01_NatDiv rfl ?_
  conv => whnf
  repeat ((first | refine opsI.step ?_ | refine codeI.step ?_); conv => whnf)
  by_cases hlt : m < n
  · repeat' first
     | (show CallN _ _ _ _ _ _; first
       | (refine CallN.quiet rfl (NatCmp_ct h a b m n ha hb (by omega) (by omega)) ?_; rw [cmp_lt0 hlt]; conv => whnf))
     | (show App _ _ _ _ _ _ _ _ _; first
       | (refine App.any (s := .slice _ _ _) rfl (GrowS.new (z := .int .u32 0) (kd := .u32) 0 rfl) ha (by unfold ln at *; omega) (by decide) (fun v' L' g => ?_); conv => whnf))
     | ((first | refine opsI.step ?_ | refine codeI.step ?_); conv => whnf)
     | (intro (_ : Nat); conv => whnf)
     | (show cnd _ _ _; first
       | (refine cnd_lt (fun _ => ?_) (fun _ => ?_) <;> first | (exfalso; omega) | (conv => whnf))
       | (refine cnd_eq (fun _ => ?_) (fun _ => ?_) <;> first | (exfalso; omega) | (conv => whnf)))
    refine ⟨FzN.grow g fun h' s hle hv w => ⟨rfl, ⟨none, 0, 0⟩, s, by rw [hv] <;> rfl, ?_, ?_⟩⟩
    · rw [Nat.div_eq_of_lt hlt]; unfold IsRef; rw [dg_zero]; exact Ws.nil rfl
    · rw [Nat.mod_eq_of_lt hlt]; exact w
  · have hc := cmp_ge0 (m := m) (n := n) (by omega)
    have hmn := ln_mono two_le_b (Nat.not_lt.1 hlt)
    obtain ⟨c, hcc⟩ : ∃ c, c = cmpI m n := ⟨_, rfl⟩
    rw [← hcc] at hc
    replace hcc := Hq.mk hcc
    repeat' first
     | (show CallN _ _ _ _ _ _; first
       | (refine CallN.quiet rfl (NatCmp_ct h a b m n ha hb (by omega) (by omega)) ?_; rw [← hcc.out]; conv => whnf))
     | (show Idx _ _ _ _ _; first
       | (refine Idx.ws hb 0 (by omega) (by unfold ln at *; omega) (fun ad hv => ?_); conv => whnf))
     | (show Ld _ _ _ _; first
       | (refine Ld.of (by first | exact hv _ | (rename_i hv; exact hv _)) ?_; conv => whnf))
     | ((first | refine opsI.step ?_ | refine codeI.step ?_); conv => whnf)
     | (show cnd _ _ _; first
       | (refine cnd_lt (fun _ => ?_) (fun _ => ?_) <;> first | (exfalso; omega) | (conv => whnf))
       | (refine cnd_eq (fun _ => ?_) (fun _ => ?_) <;> first | (exfalso; omega) | (conv => whnf)))
    · obtain ⟨e1, e2, e3⟩ := one_digit16 (n := n) (by omega)
      refine CallN.fn rfl (small_ct _ a m ((dg 65536 n).getD 0 0) ha (by omega) hd1 (by omega)) (fun v h' hl hr => ?_)
      obtain ⟨q, rfl, hq⟩ := hr
      rw [e1] at hq ⊢
      have hr := Nat.mod_lt m e2
      obtain ⟨r, hrr⟩ : ∃ r, r = m % n := ⟨_, rfl⟩
      rw [← hrr] at hr ⊢
      conv => whnf
      repeat ((first | refine opsI.step ?_ | refine codeI.step ?_); conv => whnf)
      repeat' first
       | (show CallN _ _ _ _ _ _; first
         | (refine CallN.fn rfl (NatOf_ct _ r (by omega)) (fun v h' hl hr => ?_); obtain ⟨s', rfl, hs'⟩ := hr; conv => whnf))
       | ((first | refine opsI.step ?_ | refine codeI.step ?_); conv => whnf)
       | (show WrapN _ _ _; first
         | (refine WrapN.u64 (by omega) (by omega) ?_; conv => whnf))
      exact RetN.all ⟨q, _, rfl, hq.mono ‹_›, ‹_›⟩
    obtain ⟨t, ht⟩ : ∃ t, t = (dg 65536 n).getD (ln 65536 n - 1) 0 := ⟨_, rfl⟩
    rw [← ht] at hdt htop
    replace ht := Hq.mk ht
    refine LoopN.of (fun r ρ h' L => ∃ s : Nat, r = 16 - s ∧ h' = h ∧ L = [] ∧ rd ρ 8 = .int .i64 s ∧ s ≤ 15) 16 ⟨0, rfl, rfl, rfl, rfl, by omega⟩ ?_
    conv => whnf
    repeat intro _
    rename_i rr h1 L1 hI
    obtain ⟨s, rfl, rfl, rfl, e0, hs15⟩ := hI
    conv at e0 => lhs; whnf
    subst e0
    conv => whnf
    repeat ((first | refine opsI.step ?_ | refine codeI.step ?_); conv => whnf)
    repeat' first
     | (show Idx _ _ _ _ _; first
       | (refine Idx.ws hb (ln 65536 n - 1) (by omega) (by unfold ln at *; omega) (fun ad hv => ?_); conv => whnf))
     | (show Ld _ _ _ _; first
       | (refine Ld.of (by first | exact hv _ | (rename_i hv; exact hv _)) ?_; rw [← ht.out]; conv => whnf))
     | (show ShlN _ _ _ _; first
       | (refine ShlN.u32p (r := s) rfl (by omega) hdt hs15 (fun p hp hp' => ?_); conv => whnf))
     | ((first | refine opsI.step ?_ | refine codeI.step ?_); conv => whnf)
     | (show WrapN _ _ _; first
       | (refine WrapN.i64 (by omega) (by omega) ?_; conv => whnf)
       | (refine WrapN.u64 (by omega) (by omega) ?_; conv => whnf))
     | (show cnd _ _ _; first
       | (refine cnd_lt (fun _ => ?_) (fun _ => ?_) <;> first | (exfalso; omega) | (conv => whnf)))
    · have hs : s ≠ 15 := fun e => by
        have := hp.out
        subst e
        omega
      exact ⟨rfl, 16 - (s + 1), by omega, s + 1, rfl, rfl, rfl, vi (by omega), by omega⟩
    clear hp hp' hv
    refine CallN.fn rfl (NatShl_ct _ b n s hb (by omega) (by omega)) (fun v h2 hle2 hr => ?_)
    obtain ⟨dd, rfl, hdd⟩ := hr
    have hshl := ln_shl16 (m := m) hs15
    have hshl2 := ln_shl16 (m := n) hs15
    have hDpos : 0 < n * 2 ^ s := Nat.mul_pos (by omega) (Nat.two_pow_pos s)
    have hDE : ln 65536 (n * 2 ^ s) ≤ ln 65536 (m * 2 ^ s) := ln_mono two_le_b (Nat.mul_le_mul_right _ (Nat.not_lt.1 hlt))
    have hDl : 1 ≤ ln 65536 (n * 2 ^ s) := Nat.pos_of_ne_zero fun e => by have := (ln_eq_zero two_le_b).1 e; omega
    obtain ⟨D, hD⟩ : ∃ D, D = n * 2 ^ s := ⟨_, rfl⟩
    obtain ⟨E, hE⟩ : ∃ E, E = m * 2 ^ s := ⟨_, rfl⟩
    rw [← hD] at hdd hDE hDl hDpos hshl2
    rw [← hE] at hDE hshl
    have hdl := hdd.len
    replace hD := Hq.mk hD
    have hstart := Hq.mk (div_start16 (b := 65536) (E := E) (D := D) two_le_b (lt_pow_ln two_le_b E) (pow_le_of_ln two_le_b (by omega)) hDl hDE)
    conv => whnf
    repeat ((first | refine opsI.step ?_ | refine codeI.step ?_); conv => whnf)
    refine CallN.make rfl (NatShl_ow _ a m s (ha.mono hle2) (by omega) (by omega)) (fun v h3 La hle3 hr => ?_)
    rw [← hE] at hr
    replace hE := Hq.mk hE
    conv => whnf
    repeat ((first | refine opsI.step ?_ | refine codeI.step ?_); conv => whnf)
    repeat' first
     | (show App _ _ _ _ _ _ _ _ _; first
       | (refine App.push rfl (hr.behind []) 0 rfl (by omega) (by decide) (fun v' L' g => ?_); conv => whnf))
     | ((first | refine opsI.step ?_ | refine codeI.step ?_); conv => whnf)
     | (intro (_ : Nat); conv => whnf)
    obtain ⟨o0, ho0⟩ : ∃ o0, o0 = dg 65536 E ++ [0] := ⟨_, rfl⟩
    rw [← ho0] at g
    have ol : o0.length = ln 65536 E + 1 := by rw [ho0]; simp [ln]
    have oB : ∀ x ∈ o0, x < 65536 := by rw [ho0]; exact mem_snoc (dg_lt two_le_b E) (by decide)
    have oE : evl 65536 o0 = E := by rw [ho0, evl_snoc, Nat.mul_zero, Nat.add_zero, evl_dg two_le_b]
    have hs0 : evl 65536 (o0.drop (ln 65536 E + 1 - ln 65536 D)) < D := by rw [evl_div two_le_b oB, oE]; exact hstart.out
    clear ho0 hstart hr
    obtain ⟨rfl, hx, -⟩ | ⟨i, bu, cap, zs, rfl, hLi, hcap, -⟩ := g.out
    · omega
    clear g
    have hiL := (List.getElem?_eq_some_iff.1 hLi).1
    have hset : L' = L'.set i (bu, RowZ .u32 Ty.uint32 o0 zs) := by
      obtain ⟨_, hget⟩ := List.getElem?_eq_some_iff.1 hLi
      conv => lhs; rw [← List.set_getElem_self hiL, hget]
    conv => whnf
    repeat ((first | refine opsI.step ?_ | refine codeI.step ?_); conv => whnf)
    repeat' first
     | (show Mk _ _ _; first
       | (refine Mk.of (ln 65536 E + 1 - ln 65536 D) (by omega) (by omega) (by omega) ?_; conv => whnf))
     | (refine ⟨Nat.le_refl _, ?_⟩; conv => whnf)
     | (intro (bq : Nat); conv => whnf)
     | ((first | refine opsI.step ?_ | refine codeI.step ?_); conv => whnf)
     | (show WrapN _ _ _; first
       | (refine WrapN.i64 (by omega) (by omega) ?_; conv => whnf))
    refine LoopN.of (fun r ρ h' L => ∃ (o qs : List Nat), h3.le h' ∧ L = (bq, Row .u32 Ty.uint32 qs) :: L'.set i (bu, RowZ .u32 Ty.uint32 o zs) ∧ rd ρ 13 = .int .i64 ((r : Int) - 1) ∧ r ≤ ln 65536 E + 1 - ln 65536 D ∧ o.length = ln 65536 E + 1 ∧ (∀ x ∈ o, x < 65536) ∧ qs.length = ln 65536 E + 1 - ln 65536 D ∧ (∀ x ∈ qs, x < 65536) ∧ Hq (evl 65536 (o.drop r) < D) ∧ Hq (evl 65536 (o.drop r) + D * evl 65536 (qs.drop r) = evl 65536 (o0.drop r)) ∧ Hq (o.take r = o0.take r)) (ln 65536 E + 1 - ln 65536 D)
      ⟨o0, List.replicate (ln 65536 E + 1 - ln 65536 D) 0, Heap.le_refl _, by rw [row_new, ← hset], vi (by omega), Nat.le_refl _, ol, oB, by simp, by simp, ⟨hs0⟩, ⟨by rw [evl_zeros 65536 (l := (List.replicate (ln 65536 E + 1 - ln 65536 D) 0).drop _) (fun x hx => by have := List.mem_of_mem_drop hx; simp at this; omega), Nat.mul_zero, Nat.add_zero]⟩, ⟨rfl⟩⟩ ?_
    conv => whnf
    repeat intro _
    rename_i k h4 L4 hI
    obtain ⟨o, qs, hle4, rfl, e0, hk, hol, hoB, hql, hqB, hlt', heq, htk⟩ := hI
    conv at e0 => lhs; whnf
    subst e0
    replace hoB := Hq.mk hoB
    replace hqB := Hq.mk hqB
    replace oB := Hq.mk oB
    by_cases hk0 : k = 0
    · subst hk0
      rw [List.drop_zero, List.drop_zero, List.drop_zero, oE, hE.out, hD.out] at heq
      rw [List.drop_zero] at hlt'
      have hlow := evl_low_of_lt two_le_b hoB.out (k := ln 65536 D) (Nat.lt_trans hlt'.out (lt_pow_ln two_le_b D))
      rw [hD.out] at hlt'
      obtain ⟨r1, r2, -⟩ := div_fin heq.out hlt'.out
      have hlu : ln 65536 (evl 65536 (o.take (ln 65536 D))) ≤ ln 65536 E + 1 := by rw [hlow, ← hol]; exact (ln_le_iff two_le_b).2 (evl_lt two_le_b hoB.out)
      conv => whnf
      repeat ((first | refine opsI.step ?_ | refine codeI.step ?_); conv => whnf)
      repeat' first
       | (show CutA _ _ _ _ _ _; first
         | (refine CutA.front (s := ⟨some ⟨bu, 0, none⟩, ln 65536 E + 1, cap⟩) (ln 65536 D) (by omega) (by show ln 65536 D ≤ cap; omega) ?_; conv => whnf))
       | ((first | refine opsI.step ?_ | refine codeI.step ?_); conv => whnf)
       | (show cnd _ _ _; first
         | (refine cnd_le (fun _ => ?_) (fun _ => ?_) <;> first | (exfalso; omega) | (conv => whnf)))
       | (show DrawN _ _ _ _ _ _; first
         | (refine DrawN.run (by decide +kernel) ?_; conv => whnf))
      refine CallN.keep 0 rfl rfl fun hle5 => ?_
      refine CallN.fn rfl (trim_ct _ ⟨some ⟨bq, 0, none⟩, ln 65536 E + 1 - ln 65536 D, ln 65536 E + 1 - ln 65536 D⟩ qs (Ws.row (by omega)) hqB.out (by omega)) (fun v h5 hle6 hr => ?_)
      obtain ⟨q', rfl, hq'⟩ := hr
      refine ⟨fun _ => HasLe.keep (n := 0) rfl hle5 hle6, ?_⟩
      conv => whnf
      repeat ((first | refine opsI.step ?_ | refine codeI.step ?_); conv => whnf)
      refine CallN.keep i (List.getElem?_set_self hiL) rfl fun hle7 => ?_
      refine CallN.fn rfl (trim_ct _ ⟨some ⟨bu, 0, none⟩, ln 65536 D, cap⟩ (o.take (ln 65536 D)) ⟨by simp; omega, by simp; omega, fun _ => ⟨bu, 0, (o.map (vu .u32) ++ zs).toArray, Ty.uint32, (0, 0), rfl, by simp only [Heap.put, if_true], fun j hj => by
        have hj2 : j < ln 65536 D ∧ j < o.length := by simp at hj; omega
        rw [Nat.zero_add, rowz_get hj2.2]
        simp [List.getD_eq_getElem?_getD, List.getElem?_take, hj2.1]⟩⟩ (fun x hx => hoB.out x (List.mem_of_mem_take hx)) (by simp; omega)) (fun v h6 hle8 hr => ?_)
      obtain ⟨u', rfl, hu'⟩ := hr
      refine ⟨fun _ => HasLe.keep (n := i) (List.getElem?_set_self hiL) hle7 hle8, ?_⟩
      conv => whnf
      repeat ((first | refine opsI.step ?_ | refine codeI.step ?_); conv => whnf)
      refine CallN.fn rfl (NatShr_ct _ u' _ s hu' (by omega) (by omega)) (fun v h7 hle9 hr => ?_)
      obtain ⟨r', rfl, hr'⟩ := hr
      rw [hlow, r2] at hr'
      rw [r1] at hq'
      refine ⟨fun _ => HasLe.of_le hle9, ?_⟩
      conv => whnf
      repeat ((first | refine opsI.step ?_ | refine codeI.step ?_); conv => whnf)
      exact RetN.all ⟨q', r', rfl, ((hq'.mono hle7).mono hle8).mono hle9, hr'⟩
    · obtain ⟨j, rfl⟩ : ∃ j, k = j + 1 := ⟨k - 1, by omega⟩
      obtain ⟨p, u, rfl, rfl⟩ : ∃ p u, o = p ++ u ∧ p.length = j := ⟨o.take j, o.drop j, (List.take_append_drop j o).symm, by simp; omega⟩
      have hul : p.length + u.length = ln 65536 E + 1 := by simpa using hol
      have huB : ∀ x ∈ u, x < 65536 := fun x hx => hoB.out x (List.mem_append_right _ hx)
      have hpB : ∀ x ∈ p, x < 65536 := fun x hx => hoB.out x (List.mem_append_left _ hx)
      obtain ⟨x, u1, rfl⟩ : ∃ x u1, u = x :: u1 := by
        match u, hul with
        | [], h => simp at h; omega
        | x :: u1, _ => exact ⟨x, u1, rfl⟩
      have hdr : (p ++ x :: u1).drop (p.length + 1) = u1 := by rw [List.drop_append]; simp
      rw [hdr] at heq hlt'
      have hxB := huB x (by simp)
      have hx0 : o0.getD p.length 0 = x := by
        have := congrArg (fun l => l.getD p.length 0) htk.out
        simpa [List.getD_eq_getElem?_getD, List.getElem?_take] using this.symm
      have hE0 := evl_drop (b := 65536) (l := o0) (k := p.length) (by omega)
      rw [hx0] at hE0
      have hUD : evl 65536 (x :: u1) < D * 65536 := by
        rw [evl_cons]
        have : (evl 65536 u1 + 1) * 65536 ≤ D * 65536 := Nat.mul_le_mul_right _ hlt'.out
        rw [Nat.add_mul, Nat.mul_comm] at this; omega
      have hUq := Nat.div_add_mod (evl 65536 (x :: u1)) D
      have hqB' : evl 65536 (x :: u1) / D < 65536 := (Nat.div_lt_iff_lt_mul hDpos).2 (by rw [Nat.mul_comm]; exact hUD)
      have hrD := Nat.mod_lt (evl 65536 (x :: u1)) hDpos
      obtain ⟨q, hq⟩ : ∃ q, q = evl 65536 (x :: u1) / D := ⟨_, rfl⟩
      obtain ⟨r, hr⟩ : ∃ r, r = evl 65536 (x :: u1) % D := ⟨_, rfl⟩
      rw [← hq] at hUq hqB'
      rw [← hr] at hUq hrD
      rw [Nat.mul_comm] at hUq
      have hstep := Hq.mk (div_step heq.out (evl_cons _ _ _) hE0 hUq.symm)
      replace hUq := Hq.mk hUq
      replace hE0 := Hq.mk hE0
      replace hrD := Hq.mk hrD
      have hmm : ln 65536 D = (ln 65536 D - 1) + 1 := by omega
      replace hq := Hq.mk hq
      replace hr := Hq.mk hr
      replace hUD := Hq.mk hUD
      replace hx0 := Hq.mk hx0
      replace huB := Hq.mk huB
      replace hpB := Hq.mk hpB
      conv => whnf
      repeat ((first | refine opsI.step ?_ | refine codeI.step ?_); conv => whnf)
      repeat' first
       | (show CutA _ _ _ _ _ _; first
         | (refine CutA.own p.length (p.length + ln 65536 D + 1) (by omega) (by omega) (by omega) (by omega) (by omega) ?_; conv => whnf))
       | ((first | refine opsI.step ?_ | refine codeI.step ?_); conv => whnf)
       | (show WrapN _ _ _; first
         | (refine WrapN.i64 (by omega) (by omega) ?_; conv => whnf))
       | (show cnd _ _ _; first
         | (refine cnd_le (fun _ => ?_) (fun _ => ?_) <;> first | (exfalso; omega) | (conv => whnf)))
      rw [show p.length + ln 65536 D + 1 - p.length = (ln 65536 D - 1) + 2 by omega]
      refine CallN.own (i + 1) (by rw [List.getElem?_cons_succ]; exact List.getElem?_set_self hiL) rfl (rdigit_ct _ bu _ p (x :: u1) zs dd D (ln 65536 D - 1) ((hdd.mono hle3).mono hle4) hmm (by omega) (by omega) (by omega) huB.out hUD.out (by omega)) (fun v h5 La5 hle5 hr4 => ?_)
      obtain ⟨u', e1, e2, hul', huB', hu'e⟩ := hr4
      rw [← hr.out] at hu'e
      rw [← hq.out] at e2
      subst e1 e2
      refine ⟨_, rfl, ?_⟩
      rw [List.set_cons_succ, List.set_set]
      conv => whnf
      repeat ((first | refine opsI.step ?_ | refine codeI.step ?_); conv => whnf)
      repeat' first
       | (show Idx _ _ _ _ _; first
         | (refine Idx.own p.length (by omega) (by omega) ?_; conv => whnf))
       | (show Sto _ _ _ _; first
         | (refine Sto.ws 0 rfl q (by omega) (by omega) ?_; conv => whnf))
       | ((first | refine opsI.step ?_ | refine codeI.step ?_); conv => whnf)
       | (show WrapN _ _ _; first
         | (refine WrapN.i64 (by omega) (by omega) ?_; conv => whnf))
      refine ⟨rfl, p.length, by omega, p ++ u', qs.set p.length q, Heap.le_trans hle4 hle5, rfl, vi (by omega), by omega, by rw [List.length_append, hul']; exact hul, ?_, by simp [hql], mem_set_lt hqB.out hqB', ⟨?_⟩, ⟨?_⟩, ⟨?_⟩⟩
      · intro y hy
        rcases List.mem_append.1 hy with hy | hy
        · exact hpB.out y hy
        · exact huB' y hy
      · rw [List.drop_left, hu'e]; exact hrD.out
      · rw [List.drop_left, hu'e, evl_drop (k := p.length) (l := qs.set p.length q) (by simp; omega), getD_set_self _ (by omega), drop_set]; exact hstep.out
      · have := congrArg (fun l => l.take p.length) htk.out
        simp only [List.take_take, Nat.min_eq_left (Nat.le_succ p.length)] at this
        rw [← this, List.take_left, List.take_left]

set_option maxRecDepth 20000 in
theorem NatGcd_ct (h : Heap) (a b : Sl) (m n : Nat) (ha : IsRef h a m) (hb : IsRef h b n) (la : ln 65536 m ≤ 4294967296) (lb : ln 65536 n ≤ 4294967296) :
    Fn0 T F.ref01_NatGcd [a.val, b.val] h fun v h' => ∃ s : Sl, v = s.val ∧ IsRef h' s (Nat.gcd m n) := by
  refine fn0_of_codeI ok D.ref01_NatGcd rfl ?_
  conv => whnf
  repeat ((first | refine opsI.step ?_ | refine codeI.step ?_); conv => whnf)
  refine LoopN.of (fun r ρ h' L => ∃ (a b : Sl) (m' n' : Nat), r = n' ∧ L = [] ∧ h.le h' ∧ rd ρ 0 = a.val ∧ rd ρ 1 = b.val ∧ IsRef h' a m' ∧ IsRef h' b n' ∧ ln 65536 m' ≤ 4294967296 ∧ ln 65536 n' ≤ 4294967296 ∧ Hq (Nat.gcd m' n' = Nat.gcd m n)) n
    ⟨a, b, m, n, rfl, rfl, Heap.le_refl _, rfl, rfl, ha, hb, la, lb, ⟨rfl⟩⟩ ?_
  conv => whnf
  repeat intro _
  rename_i r h1 L1 hI
  obtain ⟨a, b, m', n', rfl, rfl, hle, e0, e1, ha, hb, la, lb, hg⟩ := hI
  conv at e0 => lhs; whnf
  subst e0
  conv at e1 => lhs; whnf
  subst e1
  have hbl := hb.len
  have hz := ln_eq_zero two_le_b (n := r)
  by_cases h0 : r = 0
  · have := hz.2 h0
    clear hz
    conv => whnf
    repeat ((first | refine opsI.step ?_ | refine codeI.step ?_); conv => whnf)
    repeat' first
     | ((first | refine opsI.step ?_ | refine codeI.step ?_); conv => whnf)
     | (show cnd _ _ _; first
       | (refine cnd_lt (fun _ => ?_) (fun _ => ?_) <;> first | (exfalso; omega) | (conv => whnf)))
    refine RetN.all ⟨a, rfl, ?_⟩
    rw [← hg.out, h0, Nat.gcd_zero_right]; exact ha
  · have : ln 65536 r ≠ 0 := fun e => h0 (hz.1 e)
    clear hz
    have hmod := Nat.mod_lt m' (Nat.pos_of_ne_zero h0)
    have hlm := ln_mono two_le_b (Nat.le_of_lt hmod)
    conv => whnf
    repeat ((first | refine opsI.step ?_ | refine codeI.step ?_); conv => whnf)
    repeat' first
     | (show CallN _ _ _ _ _ _; first
       | (refine CallN.fn rfl (NatDiv_ct _ _ _ _ _ (by assumption) (by assumption) (by omega) (by omega) (by omega)) (fun v h' hl hr => ?_); obtain ⟨q', r', rfl, hq', hr'⟩ := hr; conv => whnf))
     | ((first | refine opsI.step ?_ | refine codeI.step ?_); conv => whnf)
     | (show cnd _ _ _; first
       | (refine cnd_lt (fun _ => ?_) (fun _ => ?_) <;> first | (exfalso; omega) | (conv => whnf)))
    exact ⟨rfl, m' % r, hmod, b, _, r, m' % r, rfl, rfl, Heap.le_trans hle ‹_›, rfl, rfl, hb.mono ‹_›, ‹_›, by omega, by omega, ⟨by rw [gcd_step]; exact hg.out⟩⟩
end Go.Proofs.YtdemgbmndijkkaaGreatDoor