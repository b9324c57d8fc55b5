/- Contracts of the reference's functions on natural numbers (digits to the base 65536), first part. -/
import Derived.Test.YteblflmnhegmjaaDoorW2
import Derived.Test.YteblflmnhegmjaaDoorRepA
import Derived.Test.YteblflmnhegmjaaDoorDig
import Derived.Test.YteblflmnhegmjaaDoorDig4
set_option linter.unusedVariables false
set_option linter.unusedSimpArgs false
namespace Go.Dig
theorem evl_snoc {b : Nat} (l : List Nat) (x : Nat) : evl b (l ++ [x]) = evl b l + b ^ l.length * x := by
  rw [evl_append, evl_cons, evl_nil]; simp
theorem mem_snoc {b x : Nat} {l : List Nat} (h : ∀ y ∈ l, y < b) (hx : x < b) : ∀ y ∈ l ++ [x], y < b := fun y hy => by
  rcases List.mem_append.1 hy with hy | hy
  · exact h y hy
  · simp at hy; omega
theorem addp_step {b : Nat} {da db xs : List Nat} {k c s : Nat} (hk : xs.length = k) (hs : s = da.getD k 0 + c + db.getD k 0) (h : evl b xs + c * b ^ k = evl b (da.take k) + evl b (db.take k)) :
    evl b (xs ++ [s % b]) + s / b * b ^ (k + 1) = evl b (da.take (k + 1)) + evl b (db.take (k + 1)) := by
  rw [evl_snoc, evl_take_next da, evl_take_next db, hk]
  have h3 : b ^ k * (s % b) + s / b * b ^ (k + 1) = b ^ k * s := by
    rw [Nat.pow_succ, Nat.mul_comm (s / b), Nat.mul_assoc, ← Nat.mul_add, Nat.mod_add_div]
  have h4 : b ^ k * s = b ^ k * da.getD k 0 + c * b ^ k + b ^ k * db.getD k 0 := by rw [hs, Nat.mul_add, Nat.mul_add, Nat.mul_comm c]
  omega
theorem subp_step {b : Nat} {da db xs : List Nat} {k c c' r : Nat} (hk : xs.length = k) (hr : r + db.getD k 0 + c = da.getD k 0 + c' * b) (h : evl b xs + evl b (db.take k) = evl b (da.take k) + c * b ^ k) :
    evl b (xs ++ [r]) + evl b (db.take (k + 1)) = evl b (da.take (k + 1)) + c' * b ^ (k + 1) := by
  rw [evl_snoc, evl_take_next da, evl_take_next db, hk]
  have h4 := congrArg (b ^ k * ·) hr
  simp only [Nat.mul_add] at h4
  have h5 : b ^ k * (c' * b) = c' * b ^ (k + 1) := by rw [Nat.pow_succ, Nat.mul_left_comm]
  have h6 : b ^ k * c = c * b ^ k := Nat.mul_comm _ _
  omega
end Go.Dig
namespace Go.Proofs.YteblflmnhegmjaaDoor
open Go Go.Vc Go.Dig
theorem two_le_b : 2 ≤ 65536 := by decide

theorem WrapN.mul16 {x y : Nat} {k : Int → Prop} (hx : x < 65536) (hy : y < 65536) (hk : ∀ p : Nat, Hq (p = x * y) → p ≤ 4294836225 → k p) : WrapN .u64 ((x : Int) * (y : Int)) k := by
  have h : x * y ≤ 65535 * 65535 := Nat.mul_le_mul (by omega) (by omega)
  have e : ((x * y : Nat) : Int) = (x : Int) * (y : Int) := by push_cast; rfl
  rw [← e]
  exact WrapN.u64 (Int.natCast_nonneg _) (by omega) (hk (x * y) ⟨rfl⟩ (by omega))
theorem trim_q (h : Heap) (s : Sl) (l : List Nat) (hw : Ws .u32 h s l) (hl : ∀ x ∈ l, x < 65536) (hm : l.length ≤ 4398046511104) :
    Fn0 T F.ref01_trim [s.val] h fun v h' => h' = h ∧ v = .slice s.a (ln 65536 (evl 65536 l)) s.c := by
  refine fn0_of_codeI ok D.ref01_trim rfl ?_
  have hlen := hw.len
  have hcap := hw.cap
  conv => whnf
  repeat ((first | refine opsI.step ?_ | refine codeI.step ?_); conv => whnf)
  skip
  refine LoopN.of (fun n ρ h' L => L = [] ∧ h' = h ∧ rd ρ 3 = .int .i64 n ∧ n ≤ l.length ∧ ∀ i, n ≤ i → i < l.length → l.getD i 0 = 0) l.length ⟨rfl, rfl, vi (by omega), Nat.le_refl _, fun i h1 h2 => by omega⟩ ?_
  conv => whnf
  repeat intro _
  rename_i n h1 L1 hI
  obtain ⟨rfl, rfl, e0, hk, hz⟩ := hI
  conv at e0 => lhs; whnf
  subst e0
  have fin : (n = 0 ∨ l.getD (n - 1) 0 ≠ 0) → ln 65536 (evl 65536 l) = n := fun he => by
    unfold ln
    rw [dg_take two_le_b hk hl hz he]; simp; omega
  conv => whnf
  repeat ((first | refine opsI.step ?_ | refine codeI.step ?_); conv => whnf)
  repeat' first
   | (show Idx _ _ _ _ _; first
     | (refine Idx.ws hw (n - 1) (by omega) (by omega) (fun ad hv => ?_); conv => whnf))
   | (show Ld _ _ _ _; first
     | (refine Ld.of (hv _) ?_; conv => whnf))
   | (show CutA _ _ _ _ _ _; first
     | (refine CutA.front (s := s) n (by omega) (by omega) ?_; conv => whnf))
   | ((first | refine opsI.step ?_ | refine codeI.step ?_); conv => whnf)
   | (show WrapN _ _ _; first
     | (refine WrapN.i64 (by omega) (by omega) ?_; conv => whnf))
   | (show cnd _ _ _; first
     | (refine cnd_lt (fun _ => ?_) (fun _ => ?_) <;> first | (exfalso; omega) | (conv => whnf))
     | (refine cnd_eq (fun _ => ?_) (fun _ => ?_) <;> first | (exfalso; omega) | (conv => whnf)))
  · refine ⟨rfl, n - 1, by omega, rfl, rfl, vi (by omega), by omega, fun i h1 h2 => ?_⟩
    by_cases hi : n ≤ i
    · exact hz i hi h2
    · obtain rfl : i = n - 1 := by omega
      omega
  · exact RetN.all ⟨rfl, by rw [fin (.inr (by omega))]⟩
  · exact RetN.all ⟨rfl, by rw [fin (.inl (by omega))]⟩
theorem trim_take {l : List Nat} (hl : ∀ x ∈ l, x < 65536) : ln 65536 (evl 65536 l) ≤ l.length ∧ dg 65536 (evl 65536 l) = l.take (ln 65536 (evl 65536 l)) := by
  have h1 : ln 65536 (evl 65536 l) ≤ l.length := (ln_le_iff two_le_b).2 (evl_lt two_le_b hl)
  refine ⟨h1, ?_⟩
  apply List.ext_getElem
  · simp; unfold ln at *; omega
  · intro i a1 a2
    have e1 := dg_getD two_le_b i (evl 65536 l)
    simp [List.getD_eq_getElem?_getD, a1] at e1
    rw [e1]
    have a3 : i < l.length := by simp at a2; omega
    have e2 := evl_div two_le_b hl i
    rw [List.getElem_take, ← e2, List.drop_eq_getElem_cons a3, evl_cons, Nat.add_mul_mod_self_left, Nat.mod_eq_of_lt (hl _ (List.getElem_mem a3))]
theorem trim_ct (h : Heap) (s : Sl) (l : List Nat) (hw : Ws .u32 h s l) (hl : ∀ x ∈ l, x < 65536) (hm : l.length ≤ 4398046511104) :
    Fn0 T F.ref01_trim [s.val] h fun v h' => ∃ s' : Sl, v = s'.val ∧ IsRef h' s' (evl 65536 l) :=
  (trim_q h s l hw hl hm).mono fun v h' _ ⟨e1, e2⟩ => ⟨⟨s.a, ln 65536 (evl 65536 l), s.c⟩, e2, by
    rw [e1]; unfold IsRef; rw [(trim_take hl).2]; exact hw.take (trim_take hl).1⟩

theorem NatOf_ct (h : Heap) (n : Nat) (hn : n < 18446744073709551616) : Fn0 T F.ref01_NatOf [.int .u64 n] h fun v h' => ∃ s' : Sl, v = s'.val ∧ IsRef h' s' n := by
  have hln : ln 65536 n ≤ 4 := (ln_le_iff two_le_b).2 (by omega)
  refine fn0_of_codeI ok D.ref01_NatOf rfl ?_
  conv => whnf
  repeat ((first | refine opsI.step ?_ | refine codeI.step ?_); conv => whnf)
  skip
  refine LoopN.of (fun r ρ h' L => ∃ (v : Value) (xs : List Nat), h' = h ∧ rd ρ 0 = .int .u64 r ∧ rd ρ 3 = v ∧ GrowS Ty.uint32 1 v xs.length (xs.map (vu .u32)) L ∧ dg 65536 n = xs ++ dg 65536 r) n
    ⟨_, [], rfl, rfl, rfl, GrowS.none, rfl⟩ ?_
  conv => whnf
  repeat intro _
  rename_i r h1 L1 hI
  obtain ⟨v, xs, rfl, e0, e1, g, hd⟩ := hI
  conv at e0 => lhs; whnf
  subst e0
  conv at e1 => lhs; whnf
  subst e1
  have hlen := congrArg List.length hd
  rw [List.length_append] at hlen
  have hr : r < 18446744073709551616 := by
    have e := evl_dg two_le_b n
    rw [hd, evl_append, evl_dg two_le_b] at e
    have : 1 * r ≤ 65536 ^ xs.length * r := Nat.mul_le_mul_right _ (Nat.pow_pos (by decide))
    omega
  conv => whnf
  repeat ((first | refine opsI.step ?_ | refine codeI.step ?_); conv => whnf)
  repeat' first
   | (show RemN _ _ _; first
     | (refine RemN.nn (by omega) (by omega) ?_; conv => whnf))
   | (show QuoN _ _ _ _; first
     | (refine QuoN.u64 (by omega) (by omega) (by omega) ?_; conv => whnf))
   | (show App _ _ _ _ _ _ _ _ _; first
     | (refine App.push rfl g (r % 65536) (by omega) (by unfold ln at hln; omega) (by decide) (fun v' L' g' => ?_); conv => whnf))
   | ((first | refine opsI.step ?_ | refine codeI.step ?_); conv => whnf)
   | (intro (_ : Nat); conv => whnf)
   | (show cnd _ _ _; first
     | (refine cnd_lt (fun _ => ?_) (fun _ => ?_) <;> first | (exfalso; omega) | (conv => whnf)))
   | (show WrapN _ _ _; first
     | (refine WrapN.u32 (by omega) (by omega) ?_; conv => whnf))
  · rename_i g'
    refine ⟨rfl, r / 65536, by omega, _, xs ++ [r % 65536], rfl, vi (by omega), rfl, by rw [List.length_append]; exact g', ?_⟩
    rw [hd, dg_pos two_le_b (by omega), List.append_assoc]; rfl
  · obtain rfl : r = 0 := by omega
    rw [dg_zero, List.append_nil] at hd
    exact RetN.grow g fun h' s hle hv w => ⟨s, hv, by unfold IsRef; rw [hd]; exact w⟩

theorem NatCmp_ct (h : Heap) (a b : Sl) (m n : Nat) (ha : IsRef h a m) (hb : IsRef h b n) (la : ln 65536 m ≤ 1099511627776) (lb : ln 65536 n ≤ 1099511627776) :
    Fn0 T F.ref01_NatCmp [a.val, b.val] h fun v h' => h' = h ∧ v = .int .i64 (cmpI m n) := by
  have hal := ha.len
  have hbl := hb.len
  refine fn0_of_codeI ok D.ref01_NatCmp rfl ?_
  conv => whnf
  repeat ((first | refine opsI.step ?_ | refine codeI.step ?_); conv => whnf)
  have n1 : ln 65536 m < ln 65536 n → cmpI m n = -1 := fun hx => by have := lt_of_ln two_le_b hx; simp [cmpI, this]
  have n2 : ln 65536 n < ln 65536 m → cmpI m n = 1 := fun hx => by have := lt_of_ln two_le_b hx; simp [cmpI, show ¬ m < n by omega, show m ≠ n by omega]
  repeat' first
   | ((first | refine opsI.step ?_ | refine codeI.step ?_); conv => whnf)
   | (show WrapN _ _ _; first
     | (refine WrapN.i64 (by omega) (by omega) ?_; conv => whnf))
   | (show cnd _ _ _; first
     | (refine cnd_lt (fun _ => ?_) (fun _ => ?_) <;> first | (exfalso; omega) | (conv => whnf))
     | (refine cnd_eq (fun _ => ?_) (fun _ => ?_) <;> first | (exfalso; omega) | (conv => whnf))
     | (refine cnd_not ?_))
  · refine LoopN.of (fun k ρ h' L => h' = h ∧ L = [] ∧ rd ρ 5 = .int .i64 ((k : Int) - 1) ∧ k ≤ ln 65536 m ∧ ∀ j, k ≤ j → (dg 65536 m).getD j 0 = (dg 65536 n).getD j 0) (ln 65536 m) ⟨rfl, rfl, vi (by omega), Nat.le_refl _, fun j hj => by rw [getD_out hj, getD_out (by unfold ln at *; omega)]⟩ ?_
    conv => whnf
    repeat intro _
    rename_i k h1 L1 hI
    obtain ⟨rfl, rfl, e0, hk, hz⟩ := hI
    conv at e0 => lhs; whnf
    subst e0
    have hda := dg_getD_lt two_le_b m (k - 1)
    have hdb := dg_getD_lt two_le_b n (k - 1)
    conv => whnf
    repeat ((first | refine opsI.step ?_ | refine codeI.step ?_); conv => whnf)
    repeat' first
     | (show Idx _ _ _ _ _; first
       | (refine Idx.ws ha (k - 1) (by omega) (by unfold ln at *; omega) (fun ad hv => ?_); conv => whnf)
       | (refine Idx.ws hb (k - 1) (by omega) (by unfold ln at *; omega) (fun ad hv => ?_); conv => whnf))
     | (show Ld _ _ _ _; first
       | (refine Ld.of (by first | exact hv _ | (rename_i hv; exact hv _)) ?_; conv => whnf))
     | ((first | refine opsI.step ?_ | refine codeI.step ?_); conv => whnf)
     | (show WrapN _ _ _; first
       | (refine WrapN.i64 (by omega) (by omega) ?_; conv => whnf))
     | (show cnd _ _ _; first
       | (refine cnd_lt (fun _ => ?_) (fun _ => ?_) <;> first | (exfalso; omega) | (conv => whnf))
       | (refine cnd_le (fun _ => ?_) (fun _ => ?_) <;> first | (exfalso; omega) | (conv => whnf)))
     | (show DrawN _ _ _ _ _ _; first
       | (refine DrawN.run (by decide +kernel) ?_; conv => whnf))
    · exact RetN.all ⟨rfl, vi (by have := cmp_at two_le_b (l := dg 65536 m) (m := dg 65536 n) (k := k - 1) (by unfold ln at *; omega) (dg_lt two_le_b m) (by unfold ln at *; omega) (fun j hj => hz j (by omega)) (by omega); rw [evl_dg two_le_b, evl_dg two_le_b] at this; simp [cmpI, this])⟩
    · exact RetN.all ⟨rfl, vi (by have := cmp_at two_le_b (l := dg 65536 n) (m := dg 65536 m) (k := k - 1) (by unfold ln at *; omega) (dg_lt two_le_b n) (by unfold ln at *; omega) (fun j hj => (hz j (by omega)).symm) (by omega); rw [evl_dg two_le_b, evl_dg two_le_b] at this; simp [cmpI, show ¬ m < n by omega, show m ≠ n by omega])⟩
    · refine ⟨rfl, k - 1, by omega, rfl, rfl, vi (by omega), by omega, fun j hj => ?_⟩
      by_cases hjk : k ≤ j
      · exact hz j hjk
      · obtain rfl : j = k - 1 := by omega
        omega
    · exact RetN.all ⟨rfl, vi (by have := dg_inj two_le_b (eq_of_getD (l := dg 65536 m) (m := dg 65536 n) (by unfold ln at *; omega) (fun j => hz j (by omega))); subst this; simp [cmpI])⟩
  · exact RetN.all ⟨rfl, vi (n1 (by omega)).symm⟩
  · exact RetN.all ⟨rfl, vi (n2 (by omega)).symm⟩

set_option maxRecDepth 20000 in
set_option maxHeartbeats 2000000 in
theorem NatMul_ct (h : Heap) (a b : Sl) (m n : Nat) (ha : IsRef h a m) (hb : IsRef h b n) (la : ln 65536 m ≤ 17179869184) (lb : ln 65536 n ≤ 17179869184) :
    Fn0 T F.ref01_NatMul [a.val, b.val] h fun v h' => ∃ s : Sl, v = s.val ∧ IsRef h' s (m * n) := by
  have hal := ha.len
  have hbl := hb.len
  have hma := ln_eq_zero two_le_b (n := m)
  have hmb := ln_eq_zero two_le_b (n := n)
  have nil : m * n = 0 → ∃ s : Sl, Value.slice none 0 0 = s.val ∧ IsRef h s (m * n) := fun hx => ⟨⟨none, 0, 0⟩, rfl, by rw [hx]; unfold IsRef; rw [dg_zero]; exact Ws.nil rfl⟩
  refine fn0_of_codeI ok D.ref01_NatMul rfl ?_
  conv => whnf
  repeat ((first | refine opsI.step ?_ | refine codeI.step ?_); conv => whnf)
  repeat' first
   | (show Mk _ _ _; first
     | (refine Mk.of (ln 65536 m + ln 65536 n) (by omega) (by omega) (by omega) ?_; conv => whnf))
   | (refine ⟨Nat.le_refl _, ?_⟩; conv => whnf)
   | ((first | refine opsI.step ?_ | refine codeI.step ?_); conv => whnf)
   | (intro (_ : Nat); conv => whnf)
   | (show WrapN _ _ _; first
     | (refine WrapN.i64 (by omega) (by omega) ?_; conv => whnf))
   | (show cnd _ _ _; first
     | (refine cnd_eq (fun _ => ?_) (fun _ => ?_) <;> first | (exfalso; omega) | (conv => whnf)))
  · exact RetN.all (nil (by rw [hma.1 (by omega)]; simp))
  · exact RetN.all (nil (by rw [hmb.1 (by omega)]; simp))
  rename_i h1 h2 bo
  clear hma hmb nil h1 h2
  refine LoopN.of (fun r ρ h' L => ∃ (k : Nat) (o : List Nat), r = ln 65536 m - k ∧ h' = h ∧ L = [(bo, Row .u32 Ty.uint32 o)] ∧ rd ρ 28 = .int .i64 k ∧ k ≤ ln 65536 m ∧ o.length = ln 65536 m + ln 65536 n ∧ (∀ x ∈ o, x < 65536) ∧ (∀ j, k + ln 65536 n ≤ j → o.getD j 0 = 0) ∧
      Hq (evl 65536 o = evl 65536 ((dg 65536 m).take k) * n)) (ln 65536 m)
    ⟨0, List.replicate (ln 65536 m + ln 65536 n) 0, rfl, rfl, by rw [row_new], rfl, by omega, by simp, by simp, fun j _ => getD_zeros _ _, ⟨by rw [evl_zeros _ (by simp)]; simp [evl_nil]⟩⟩ ?_
  conv => whnf
  repeat intro _
  rename_i r h2 L2 hI
  obtain ⟨k, o, rfl, rfl, rfl, e0, hk, hol, hoB, hoz, heq⟩ := hI
  conv at e0 => lhs; whnf
  subst e0
  have hda := dg_getD_lt two_le_b m k
  conv => whnf
  repeat ((first | refine opsI.step ?_ | refine codeI.step ?_); conv => whnf)
  repeat' first
   | (show Idx _ _ _ _ _; first
     | (refine Idx.ws ha k (by omega) (by unfold ln at *; omega) (fun ad hv => ?_); conv => whnf))
   | (show Ld _ _ _ _; first
     | (refine Ld.of (by first | exact hv _ | (rename_i hv; exact hv _)) ?_; conv => whnf))
   | ((first | refine opsI.step ?_ | refine codeI.step ?_); conv => whnf)
   | (show cnd _ _ _; first
     | (refine cnd_lt (fun _ => ?_) (fun _ => ?_) <;> first | (exfalso; omega) | (conv => whnf)))
  · refine LoopN.of (fun r ρ h' L => ∃ (j : Nat) (o : List Nat) (c : Nat), r = ln 65536 n - j ∧ h' = h2 ∧ L = [(bo, Row .u32 Ty.uint32 o)] ∧ rd ρ 35 = .int .i64 j ∧ rd ρ 8 = .int .u64 c ∧ j ≤ ln 65536 n ∧ o.length = ln 65536 m + ln 65536 n ∧ (∀ x ∈ o, x < 65536) ∧ (∀ i, k + ln 65536 n ≤ i → o.getD i 0 = 0) ∧ c < 65536 ∧
        Hq (evl 65536 o + c * 65536 ^ (k + j) = evl 65536 ((dg 65536 m).take k) * n + 65536 ^ k * ((dg 65536 m).getD k 0 * evl 65536 ((dg 65536 n).take j)))) (ln 65536 n)
      ⟨0, o, 0, rfl, rfl, rfl, rfl, rfl, by omega, hol, hoB, hoz, by omega, ⟨by simp [evl_nil, heq.out]⟩⟩ ?_
    conv => whnf
    repeat intro _
    rename_i r h3 L3 hI
    obtain ⟨j, o, c, rfl, rfl, rfl, e0, e1, hj, hol, hoB, hoz, hc, heq⟩ := hI
    conv at e0 => lhs; whnf
    subst e0
    conv at e1 => lhs; whnf
    subst e1
    have hdb := dg_getD_lt two_le_b n j
    have hdo := getD_lt (b := 65536) (by omega) hoB (k + j)
    conv => whnf
    repeat ((first | refine opsI.step ?_ | refine codeI.step ?_); conv => whnf)
    repeat' first
     | (show Idx _ _ _ _ _; first
       | (refine Idx.ws hb j (by omega) (by unfold ln at *; omega) (fun ad hv => ?_); conv => whnf)
       | (refine Idx.own (k + j) (by omega) (by omega) ?_; conv => whnf))
     | (show Ld _ _ _ _; first
       | (refine Ld.of (by first | exact hv _ | (rename_i hv; exact hv _)) ?_; conv => whnf)
       | (refine Ld.ws 0 rfl (by omega) ?_; conv => whnf))
     | (show RemN _ _ _; first
       | (refine RemN.nn (by omega) (by omega) ?_; conv => whnf))
     | (show QuoN _ _ _ _; first
       | (refine QuoN.u64 (by omega) (by omega) (by omega) ?_; conv => whnf))
     | (show WrapN _ _ _; first
       | (refine WrapN.mul16 hda hdb (fun p hp hp' => ?_); conv => whnf)
       | (refine WrapN.i64 (by omega) (by omega) ?_; conv => whnf)
       | (refine WrapN.u64 (by omega) (by omega) ?_; conv => whnf)
       | (refine WrapN.u32 (by omega) (by omega) ?_; conv => whnf))
     | (show Sto _ _ _ _; first
       | (rename_i p hp hp'; refine Sto.ws 0 rfl ((p + o.getD (k + j) 0 + c) % 65536) (by omega) (by omega) ?_; conv => whnf))
     | ((first | refine opsI.step ?_ | refine codeI.step ?_); conv => whnf)
     | (show cnd _ _ _; first
       | (refine cnd_lt (fun _ => ?_) (fun _ => ?_) <;> first | (exfalso; omega) | (conv => whnf)))
    · rename_i p hp hp'
      refine ⟨rfl, ln 65536 n - (j + 1), by omega, j + 1, _, (p + o.getD (k + j) 0 + c) / 65536, rfl, rfl, rfl, vi (by omega), vi (by omega), by omega, by simp [hol], mem_set_lt hoB (Nat.mod_lt _ (by omega)), fun i hi => by rw [getD_set_other _ (by omega)]; exact hoz i hi, by omega, ⟨?_⟩⟩
      have := mul_step (b := 65536) (p := k + j) (o := o) (s := p + o.getD (k + j) 0 + c) (x := (dg 65536 m).getD k 0) (y := (dg 65536 n).getD j 0) (by omega) (by rw [hp.out]) heq.out
      rw [show k + (j + 1) = k + j + 1 by omega, this, evl_take_next, Nat.mul_add, Nat.mul_add, Nat.pow_add]
      congr 2
      rw [Nat.mul_assoc, Nat.mul_left_comm ((dg 65536 m).getD k 0)]
    · obtain rfl : j = ln 65536 n := by omega
      refine Sto.ws 0 rfl c (by omega) (by omega) ?_
      conv => whnf
      repeat ((first | refine opsI.step ?_ | refine codeI.step ?_); conv => whnf)
      repeat' first
       | ((first | refine opsI.step ?_ | refine codeI.step ?_); conv => whnf)
       | (show WrapN _ _ _; first
         | (refine WrapN.i64 (by omega) (by omega) ?_; conv => whnf))
      refine ⟨rfl, ln 65536 m - (k + 1), by omega, k + 1, _, rfl, rfl, rfl, vi (by omega), by omega, by simp [hol], mem_set_lt hoB (by omega), fun i hi => by rw [getD_set_other _ (by omega)]; exact hoz i (by omega), ⟨?_⟩⟩
      have e := evl_set (b := 65536) (l := o) (k := k + ln 65536 n) c (by omega)
      rw [hoz _ (Nat.le_refl _), Nat.mul_zero, Nat.add_zero, Nat.mul_comm _ c, heq.out, evl_all two_le_b (Nat.le_refl _)] at e
      rw [e, evl_take_next, Nat.add_mul, Nat.mul_assoc]
  · obtain rfl : k = ln 65536 m := by omega
    refine CallN.keep 0 rfl rfl fun hle => ?_
    refine CallN.fn rfl (trim_ct _ ⟨some ⟨bo, 0, none⟩, ln 65536 m + ln 65536 n, ln 65536 m + ln 65536 n⟩ o (Ws.row (by simp [hol])) hoB (by omega)) (fun v h' hl hr => ?_)
    obtain ⟨s', rfl, hs⟩ := hr
    conv => whnf
    repeat ((first | refine opsI.step ?_ | refine codeI.step ?_); conv => whnf)
    refine RetN.all ⟨s', rfl, ?_⟩
    have heq := heq.out
    rw [evl_all two_le_b (Nat.le_refl _)] at heq
    rwa [heq] at hs

theorem ln_or16 (k n : Nat) : k < ln 65536 n ∨ (dg 65536 n).getD k 0 = 0 := by
  rcases Nat.lt_or_ge k (ln 65536 n) with h | h
  · exact .inl h
  · exact .inr (getD_out h)
set_option maxRecDepth 20000 in
set_option maxHeartbeats 1000000 in
theorem NatAdd_ct (h : Heap) (a b : Sl) (m n : Nat) (ha : IsRef h a m) (hb : IsRef h b n) (la : ln 65536 m ≤ 1099511627776) (lb : ln 65536 n ≤ 1099511627776) :
    Fn0 T F.ref01_NatAdd [a.val, b.val] h fun v h' => ∃ s : Sl, v = s.val ∧ IsRef h' s (m + n) := by
  have hal := ha.len
  have hbl := hb.len
  refine fn0_of_codeI ok D.ref01_NatAdd rfl ?_
  conv => whnf
  repeat ((first | refine opsI.step ?_ | refine codeI.step ?_); conv => whnf)
  refine SeqN.cut (fun ρ h' L => L = [] ∧ h' = h ∧ ∃ (a b : Sl) (m' n' : Nat), rd ρ 0 = a.val ∧ rd ρ 1 = b.val ∧ IsRef h a m' ∧ IsRef h b n' ∧ m' + n' = m + n ∧ ln 65536 n' ≤ ln 65536 m' ∧ ln 65536 m' ≤ 1099511627776) ?_ ?_
  · conv => whnf
    repeat ((first | refine opsI.step ?_ | refine codeI.step ?_); conv => whnf)
    repeat' first
     | ((first | refine opsI.step ?_ | refine codeI.step ?_); conv => whnf)
     | (show cnd _ _ _; first
       | (refine cnd_lt (fun _ => ?_) (fun _ => ?_) <;> first | (exfalso; omega) | (conv => whnf)))
    · exact ⟨rfl, rfl, rfl, b, a, n, m, rfl, rfl, hb, ha, by omega, by omega, by omega⟩
    · exact ⟨rfl, rfl, rfl, a, b, m, n, rfl, rfl, ha, hb, by omega, by omega, by omega⟩
  clear ha hb hal hbl
  conv => whnf
  repeat intro _
  rename_i h1 L1 hJ
  obtain ⟨rfl, rfl, a, b, m', n', e0, e1, ha, hb, hmn, hln, hlm⟩ := hJ
  conv at e0 => lhs; whnf
  subst e0
  conv at e1 => lhs; whnf
  subst e1
  have hal := ha.len
  have hbl := hb.len
  conv => whnf
  repeat ((first | refine opsI.step ?_ | refine codeI.step ?_); conv => whnf)
  repeat' first
   | (show Mk _ _ _; first
     | (refine Mk.of 0 (by omega) (by omega) (by omega) ?_; conv => whnf)
     | (refine Mk.of (ln 65536 m' + 1) (by omega) (by omega) (by omega) ?_; conv => whnf))
   | (refine ⟨Nat.zero_le _, ?_⟩; conv => whnf)
   | ((first | refine opsI.step ?_ | refine codeI.step ?_); conv => whnf)
   | (intro (_ : Nat); conv => whnf)
   | (show WrapN _ _ _; first
     | (refine WrapN.i64 (by omega) (by omega) ?_; conv => whnf))
  refine LoopN.of (fun r ρ h' L => ∃ (k : Nat) (v : Value) (xs : List Nat) (c : Nat), r = ln 65536 m' - k ∧ h' = h1 ∧ rd ρ 22 = .int .i64 k ∧ rd ρ 6 = .int .u32 c ∧ rd ρ 5 = v ∧ GrowS Ty.uint32 1 v k (xs.map (vu .u32)) L ∧ k ≤ ln 65536 m' ∧ xs.length = k ∧ (∀ x ∈ xs, x < 65536) ∧ c ≤ 1 ∧
      evl 65536 xs + c * 65536 ^ k = evl 65536 ((dg 65536 m').take k) + evl 65536 ((dg 65536 n').take k)) (ln 65536 m')
    ⟨0, _, [], 0, rfl, rfl, rfl, rfl, rfl, GrowS.new 0 rfl, by omega, rfl, by simp, by omega, by simp [evl_nil]⟩ ?_
  conv => whnf
  repeat intro _
  rename_i r h2 L2 hI
  obtain ⟨k, v, xs, c, rfl, rfl, e0, e1, e2, g, hk, hol, hoB, hc, heq⟩ := hI
  conv at e0 => lhs; whnf
  subst e0
  conv at e1 => lhs; whnf
  subst e1
  conv at e2 => lhs; whnf
  subst e2
  have hda := dg_getD_lt two_le_b m' k
  have hdb := dg_getD_lt two_le_b n' k
  have hz := ln_or16 k n'
  conv => whnf
  repeat ((first | refine opsI.step ?_ | refine codeI.step ?_); conv => whnf)
  repeat' first
   | (show SeqN _ _ _ _ _ _ _; first
     | (refine SeqN.go ?_; conv => whnf))
   | (show Idx _ _ _ _ _; first
     | (refine Idx.ws ha k (by omega) (by unfold ln at *; omega) (fun ad hv => ?_); conv => whnf)
     | (refine Idx.ws hb k (by omega) (by unfold ln at *; omega) (fun ad hv => ?_); conv => whnf))
   | (show Ld _ _ _ _; first
     | (refine Ld.of (by first | exact hv _ | (rename_i hv; exact hv _)) ?_; conv => whnf))
   | (show RemN _ _ _; first
     | (refine RemN.nn (by omega) (by omega) ?_; conv => whnf))
   | (show QuoN _ _ _ _; first
     | (refine QuoN.u32 (by omega) (by omega) (by omega) ?_; conv => whnf))
   | (show App _ _ _ _ _ _ _ _ _; first
     | (refine App.push rfl g (((dg 65536 m').getD k 0 + c + (dg 65536 n').getD k 0) % 65536) (by omega) (by omega) (by decide) (fun v' L' g' => ?_); conv => whnf)
     | (refine App.push rfl g c (by omega) (by omega) (by decide) (fun v' L' g' => ?_); conv => whnf))
   | ((first | refine opsI.step ?_ | refine codeI.step ?_); conv => whnf)
   | (intro (_ : Nat); conv => whnf)
   | (show WrapN _ _ _; first
     | (refine WrapN.i64 (by omega) (by omega) ?_; conv => whnf)
     | (refine WrapN.u32 (by omega) (by omega) ?_; conv => whnf))
   | (show cnd _ _ _; first
     | (refine cnd_lt (fun _ => ?_) (fun _ => ?_) <;> first | (exfalso; omega) | (conv => whnf)))
  · exact ⟨rfl, ln 65536 m' - (k + 1), by omega, k + 1, _, _, ((dg 65536 m').getD k 0 + c + (dg 65536 n').getD k 0) / 65536, rfl, rfl, vi (by omega), vi (by omega), rfl, g', by omega, by simp [hol], mem_snoc hoB (Nat.mod_lt _ (by omega)), by omega, addp_step hol rfl heq⟩
  · exact ⟨rfl, ln 65536 m' - (k + 1), by omega, k + 1, _, _, ((dg 65536 m').getD k 0 + c + (dg 65536 n').getD k 0) / 65536, rfl, rfl, vi (by omega), vi (by omega), rfl, g', by omega, by simp [hol], mem_snoc hoB (Nat.mod_lt _ (by omega)), by omega, addp_step hol rfl heq⟩
  all_goals
    obtain rfl : k = ln 65536 m' := by omega
    rw [evl_all two_le_b (Nat.le_refl _), evl_all two_le_b hln, hmn] at heq
  · have e : evl 65536 (xs ++ [c]) = m + n := by rw [evl_snoc, hol, Nat.mul_comm]; exact heq
    refine RetN.grow g' fun h' s hle hv w => ⟨s, hv, ?_⟩
    unfold IsRef
    rw [← e, dg_full two_le_b (mem_snoc hoB (by omega)) (.inr ?_)]
    · exact w
    · rw [evl_snoc, List.length_append, hol]
      have : 65536 ^ ln 65536 m' * 1 ≤ 65536 ^ ln 65536 m' * c := Nat.mul_le_mul_left _ (by omega)
      simp; omega
  · obtain rfl : c = 0 := by omega
    rw [Nat.zero_mul, Nat.add_zero] at heq
    refine RetN.grow g fun h' s hle hv w => ⟨s, hv, ?_⟩
    unfold IsRef
    rw [← heq, dg_full two_le_b hoB ?_]
    · exact w
    · by_cases h0 : ln 65536 m' = 0
      · exact .inl (by omega)
      · refine .inr ?_
        rw [heq, hol]
        have := pow_le_of_ln (n := m') (k := ln 65536 m' - 1) two_le_b (by omega)
        omega

set_option maxRecDepth 20000 in
set_option maxHeartbeats 1000000 in
theorem NatSub_ct (h : Heap) (a b : Sl) (m n : Nat) (ha : IsRef h a m) (hb : IsRef h b n) (la : ln 65536 m ≤ 1099511627776) (hnm : n ≤ m) :
    Fn0 T F.ref01_NatSub [a.val, b.val] h fun v h' => ∃ s : Sl, v = s.val ∧ IsRef h' s (m - n) := by
  have hal := ha.len
  have hbl := hb.len
  have hln := ln_mono two_le_b hnm
  refine fn0_of_codeI ok D.ref01_NatSub rfl ?_
  conv => whnf
  repeat ((first | refine opsI.step ?_ | refine codeI.step ?_); conv => whnf)
  repeat' first
   | (show Mk _ _ _; first
     | (refine Mk.of 0 (by omega) (by omega) (by omega) ?_; conv => whnf)
     | (refine Mk.of (ln 65536 m) (by omega) (by omega) (by omega) ?_; conv => whnf))
   | (refine ⟨Nat.zero_le _, ?_⟩; conv => whnf)
   | ((first | refine opsI.step ?_ | refine codeI.step ?_); conv => whnf)
   | (intro (_ : Nat); conv => whnf)
  refine LoopN.of (fun r ρ h' L => ∃ (k : Nat) (v : Value) (xs : List Nat) (c : Nat), r = ln 65536 m - k ∧ h' = h ∧ rd ρ 15 = .int .i64 k ∧ rd ρ 6 = .int .u32 c ∧ rd ρ 5 = v ∧ GrowS Ty.uint32 1 v k (xs.map (vu .u32)) L ∧ k ≤ ln 65536 m ∧ xs.length = k ∧ (∀ x ∈ xs, x < 65536) ∧ c ≤ 1 ∧
      evl 65536 xs + evl 65536 ((dg 65536 n).take k) = evl 65536 ((dg 65536 m).take k) + c * 65536 ^ k) (ln 65536 m)
    ⟨0, _, [], 0, rfl, rfl, rfl, rfl, rfl, GrowS.new 0 rfl, by omega, rfl, by simp, by omega, by simp [evl_nil]⟩ ?_
  conv => whnf
  repeat intro _
  rename_i r h2 L2 hI
  obtain ⟨k, v, xs, c, rfl, rfl, e0, e1, e2, g, hk, hol, hoB, hc, heq⟩ := hI
  conv at e0 => lhs; whnf
  subst e0
  conv at e1 => lhs; whnf
  subst e1
  conv at e2 => lhs; whnf
  subst e2
  have hda := dg_getD_lt two_le_b m k
  have hdb := dg_getD_lt two_le_b n k
  have hz := ln_or16 k n
  obtain ⟨x, hx⟩ : ∃ x, x = if (dg 65536 m).getD k 0 < c + (dg 65536 n).getD k 0 then (dg 65536 m).getD k 0 + 65536 - (c + (dg 65536 n).getD k 0) else (dg 65536 m).getD k 0 - (c + (dg 65536 n).getD k 0) := ⟨_, rfl⟩
  conv => whnf
  repeat ((first | refine opsI.step ?_ | refine codeI.step ?_); conv => whnf)
  repeat' first
   | (show SeqN _ _ _ _ _ _ _; first
     | (refine SeqN.go ?_; conv => whnf))
   | (show Idx _ _ _ _ _; first
     | (refine Idx.ws ha k (by omega) (by unfold ln at *; omega) (fun ad hv => ?_); conv => whnf)
     | (refine Idx.ws hb k (by omega) (by unfold ln at *; omega) (fun ad hv => ?_); conv => whnf))
   | (show Ld _ _ _ _; first
     | (refine Ld.of (by first | exact hv _ | (rename_i hv; exact hv _)) ?_; conv => whnf))
   | (show App _ _ _ _ _ _ _ _ _; first
     | (refine App.push rfl g x (by split at hx <;> omega) (by omega) (by decide) (fun v' L' g' => ?_); conv => whnf))
   | ((first | refine opsI.step ?_ | refine codeI.step ?_); conv => whnf)
   | (intro (_ : Nat); conv => whnf)
   | (show WrapN _ _ _; first
     | (refine WrapN.i64 (by omega) (by omega) ?_; conv => whnf)
     | (refine WrapN.u32 (by omega) (by omega) ?_; conv => whnf))
   | (show cnd _ _ _; first
     | (refine cnd_lt (fun _ => ?_) (fun _ => ?_) <;> first | (exfalso; omega) | (conv => whnf)))
  rotate_right
  · obtain rfl : k = ln 65536 m := by omega
    rw [evl_all two_le_b (Nat.le_refl _), evl_all two_le_b hln] at heq
    refine CallN.grow g rfl fun h' L' s hle hv w => ?_
    rw [hv]
    refine CallN.fn rfl (trim_ct _ s xs w hoB (by omega)) (fun v h' hl hr => ?_)
    obtain ⟨s', rfl, hs⟩ := hr
    conv => whnf
    repeat ((first | refine opsI.step ?_ | refine codeI.step ?_); conv => whnf)
    refine RetN.all ⟨s', rfl, ?_⟩
    have hlt := evl_lt two_le_b hoB
    rw [hol] at hlt
    have : evl 65536 xs = m - n := by
      match c, hc with
      | 0, _ => omega
      | 1, _ => omega
    rwa [this] at hs
  all_goals
    refine ⟨rfl, ln 65536 m - (k + 1), by omega, k + 1, _, _, (if (dg 65536 m).getD k 0 < c + (dg 65536 n).getD k 0 then 1 else 0), rfl, rfl, vi (by omega), vi (by split <;> omega), rfl, g', by omega, by simp [hol], mem_snoc hoB (by split at hx <;> omega), by split <;> omega, subp_step (c := c) hol (by split at hx <;> split <;> omega) heq⟩
end Go.Proofs.YteblflmnhegmjaaDoor
