/- Contracts of the reference's functions on natural numbers (digits to the base 65536), third part: division by a digit, shifts, what long division calls. -/
import Derived.Test.YteblflmnhegmjaaDoorR2
import Derived.Test.YteblflmnhegmjaaDoorRepB
import Derived.Test.YteblflmnhegmjaaDoorDig4
set_option linter.unusedVariables false
set_option linter.unusedSimpArgs false
namespace Go.Dig
theorem shr_digit16 {N k r : Nat} (hr : r ≤ 15) : (N / 65536 ^ k % 65536 + 65536 * (N / 65536 ^ (k + 1) % 65536)) / 2 ^ r % 65536 = N / 2 ^ r / 65536 ^ k % 65536 := by
  have e1 : N / 65536 ^ (k + 1) = N / 65536 ^ k / 65536 := by rw [Nat.pow_succ, Nat.div_div_eq_div_mul]
  rw [e1, show N / 2 ^ r / 65536 ^ k = N / 65536 ^ k / 2 ^ r by rw [Nat.div_div_eq_div_mul, Nat.mul_comm, ← Nat.div_div_eq_div_mul]]
  generalize N / 65536 ^ k = M
  rw [← Nat.mod_mul]
  have e2 : (65536 * 65536 : Nat) = 2 ^ r * (65536 * 2 ^ (16 - r)) := by
    rw [Nat.mul_left_comm, ← Nat.pow_add, show r + (16 - r) = 16 by omega]
  rw [e2, Nat.mod_mul_right_div_self, Nat.mod_mul_right_mod]
end Go.Dig
namespace Go.Proofs.YteblflmnhegmjaaDoor
open Go Go.Vc Go.Dig

set_option maxRecDepth 20000 in
set_option maxHeartbeats 1000000 in
theorem small_ct (h : Heap) (a : Sl) (m d : Nat) (ha : IsRef h a m) (la : ln 65536 m ≤ 17179869184) (hd : d < 65536) (h0 : 0 < d) :
    Fn0 T F.ref01_small [a.val, .int .u32 d] h fun v h' => ∃ s : Sl, v = .tuple #[s.val, .int .u32 (m % d : Nat)] ∧ IsRef h' s (m / d) := by
  have hal := ha.len
  refine fn0_of_codeI ok D.ref01_small rfl ?_
  conv => whnf
  repeat ((first | refine opsI.step ?_ | refine codeI.step ?_); conv => whnf)
  repeat' first
   | (show Mk _ _ _; first
     | (refine Mk.of (ln 65536 m) (by omega) (by omega) (by omega) ?_; conv => whnf))
   | (refine ⟨Nat.le_refl _, ?_⟩; conv => whnf)
   | (intro (bo : Nat); conv => whnf)
   | ((first | refine opsI.step ?_ | refine codeI.step ?_); conv => whnf)
   | (show WrapN _ _ _; first
     | (refine WrapN.i64 (by omega) (by omega) ?_; conv => whnf))
  refine LoopN.of (fun k ρ h' L => ∃ (o : List Nat) (c : Nat), h' = h ∧ L = [(bo, Row .u32 Ty.uint32 o)] ∧ rd ρ 8 = .int .i64 ((k : Int) - 1) ∧ rd ρ 7 = .int .u32 c ∧ k ≤ ln 65536 m ∧ o.length = ln 65536 m ∧ (∀ x ∈ o, x < 65536) ∧ c < d ∧ Hq (evl 65536 ((dg 65536 m).drop k) = evl 65536 (o.drop k) * d + c)) (ln 65536 m)
    ⟨List.replicate (ln 65536 m) 0, 0, rfl, by rw [row_new], vi (by omega), rfl, Nat.le_refl _, by simp, by simp, h0, ⟨by rw [List.drop_eq_nil_of_le (by unfold ln; omega), List.drop_eq_nil_of_le (by simp)]; simp [evl_nil]⟩⟩ ?_
  conv => whnf
  repeat intro _
  rename_i k h2 L2 hI
  obtain ⟨o, c, rfl, rfl, e0, e1, hk, hol, hoB, hc, heq⟩ := hI
  conv at e0 => lhs; whnf
  subst e0
  conv at e1 => lhs; whnf
  subst e1
  have hda := dg_getD_lt two_le_b m (k - 1)
  obtain ⟨p, hp⟩ : ∃ p, p = c * 65536 := ⟨_, rfl⟩
  obtain ⟨s, hs⟩ : ∃ s, s = (dg 65536 m).getD (k - 1) 0 + p := ⟨_, rfl⟩
  have hq : Hq (s / d < 65536) := ⟨by
    rw [Nat.div_lt_iff_lt_mul h0]
    have : (c + 1) * 65536 ≤ d * 65536 := Nat.mul_le_mul_right _ hc
    omega⟩
  obtain ⟨q, hqd⟩ : ∃ q, q = s / d := ⟨_, rfl⟩
  obtain ⟨z, hzd⟩ : ∃ z, z = s % d := ⟨_, rfl⟩
  have hz : z < d := by rw [hzd]; exact Nat.mod_lt _ h0
  have hqz : Hq (s = q * d + z) := ⟨by rw [hqd, hzd, Nat.mul_comm, Nat.div_add_mod]⟩
  have hqB := hq.out
  rw [← hqd] at hqB
  have eq1 : ((s : Int) / (d : Int)) = (q : Int) := by rw [hqd]; rfl
  have eq2 : ((s : Int) % (d : Int)) = (z : Int) := by rw [hzd]; rfl
  replace hqd := Hq.mk hqd
  replace hzd := Hq.mk hzd
  conv => whnf
  repeat ((first | refine opsI.step ?_ | refine codeI.step ?_); conv => whnf)
  repeat' first
   | (show WrapN _ _ _; first
     | (refine WrapN.u32v p (by omega) ?_; conv => whnf)
     | (refine WrapN.u32v s (by omega) ?_; conv => whnf)
     | (refine WrapN.i64 (by omega) (by omega) ?_; conv => whnf))
   | (show Idx _ _ _ _ _; first
     | (refine Idx.ws ha (k - 1) (by omega) (by unfold ln at *; omega) (fun ad hv => ?_); conv => whnf)
     | (refine Idx.own (k - 1) (by omega) (by omega) ?_; conv => whnf))
   | (show Ld _ _ _ _; first
     | (refine Ld.of (by first | exact hv _ | (rename_i hv; exact hv _)) ?_; conv => whnf))
   | (show QuoN _ _ _ _; first
     | (refine QuoN.u32 (by omega) (by omega) (by omega) ?_; rw [eq1]; conv => whnf))
   | (show RemN _ _ _; first
     | (refine RemN.nn (by omega) (by omega) ?_; rw [eq2]; conv => whnf))
   | (show Sto _ _ _ _; first
     | (refine Sto.ws 0 rfl q (by omega) (by omega) ?_; conv => whnf))
   | ((first | refine opsI.step ?_ | refine codeI.step ?_); conv => whnf)
   | (show cnd _ _ _; first
     | (refine cnd_le (fun _ => ?_) (fun _ => ?_) <;> first | (exfalso; omega) | (conv => whnf)))
  · obtain ⟨k, rfl⟩ : ∃ k', k = k' + 1 := ⟨k - 1, by omega⟩
    have heq : evl 65536 ((dg 65536 m).drop (k + 1)) = evl 65536 (o.drop (k + 1)) * d + c := heq.out
    refine ⟨rfl, k, by omega, _, z, rfl, rfl, vi (by omega), vi (by omega), by omega, by simp [hol], mem_set_lt hoB hqB, hz, ⟨?_⟩⟩
    show evl 65536 ((dg 65536 m).drop k) = evl 65536 ((o.set k q).drop k) * d + z
    rw [evl_drop (k := k) (l := dg 65536 m) (by unfold ln at *; omega), evl_drop (k := k) (l := o.set k q) (by simp; omega), getD_set_self _ (by omega), drop_set, heq, Nat.add_mul, Nat.mul_assoc, Nat.mul_add]
    have := hqz.out
    have hs : s = (dg 65536 m).getD k 0 + p := hs
    omega
  · obtain rfl : k = 0 := by omega
    refine CallN.keep 0 rfl rfl fun hle => ?_
    refine CallN.fn rfl (trim_ct _ ⟨some ⟨bo, 0, none⟩, ln 65536 m, ln 65536 m⟩ o (Ws.row (by simp [hol])) hoB (by omega)) (fun v h' hl hr => ?_)
    obtain ⟨s', rfl, hs⟩ := hr
    conv => whnf
    repeat ((first | refine opsI.step ?_ | refine codeI.step ?_); conv => whnf)
    skip
    have heq := heq.out
    rw [List.drop_zero, List.drop_zero, evl_dg two_le_b] at heq
    have e1 : m / d = evl 65536 o := by rw [heq, Nat.add_comm, Nat.add_mul_div_right _ _ h0, Nat.div_eq_of_lt hc, Nat.zero_add]
    have e2 : m % d = c := by rw [heq, Nat.mul_comm, Nat.mul_add_mod, Nat.mod_eq_of_lt hc]
    refine RetN.all ⟨s', by rw [e2], ?_⟩
    rwa [e1]

/-- a grown row is trimmed -/
theorem CallN.trim {h : Heap} {L : Own} {k : Value → Heap → Own → Prop} {v : Value} {n : Nat} {xs : List Nat} (g : GrowS Ty.uint32 1 v n (xs.map (vu .u32)) L) (hx : ∀ x ∈ xs, x < 65536) (hm : xs.length ≤ 4398046511104)
    (hk : ∀ v' h', h.le h' → GrowS Ty.uint32 1 v' (ln 65536 (evl 65536 xs)) ((dg 65536 (evl 65536 xs)).map (vu .u32)) L → k v' h' L) : CallN T F.ref01_trim [v] h L k := by
  obtain ⟨h1, h2⟩ := trim_take hx
  obtain ⟨e4, ⟨rfl, rfl⟩ | ⟨i, b, cap, zs, rfl, e2, e3, e5⟩⟩ := g
  · obtain rfl : xs = [] := by simpa using e4
    refine CallN.quiet rfl (trim_q h ⟨none, 0, 0⟩ [] (Ws.nil rfl) hx hm) (hk _ _ (Heap.le_refl _) ?_)
    rw [evl_nil, ln_zero, dg_zero]; exact GrowS.nil _ _ _
  · have hn : n = xs.length := by simpa using e4.symm
    refine CallN.lend i e2 rfl (fun _ => (trim_q _ ⟨some ⟨b, 0, none⟩, n, cap⟩ xs (Ws.grown hn e3) hx hm).mono fun v h' _ r => r.2) fun v' h' hl e => ?_
    rw [e]
    have e6 : (dg 65536 (evl 65536 xs)).map (vu .u32) ++ ((xs.drop (ln 65536 (evl 65536 xs))).map (vu .u32) ++ zs) = xs.map (vu .u32) ++ zs := by
      rw [h2, ← List.append_assoc, ← List.map_append, List.take_append_drop]
    refine hk _ _ hl ⟨by simp; unfold ln; rfl, .inr ⟨i, b, cap, (xs.drop (ln 65536 (evl 65536 xs))).map (vu .u32) ++ zs, rfl, ?_, by omega, ?_⟩⟩
    · rw [e2, e6]
    · rw [e6]; exact e5

set_option maxRecDepth 20000 in
set_option maxHeartbeats 1000000 in
/-- the reference's shift to the left, which hands out memory of its own -/
theorem NatShl_ow (h : Heap) (a : Sl) (m n : Nat) (ha : IsRef h a m) (la : ln 65536 m ≤ 17179869184) (hn : n ≤ 549755813888) :
    Vc.Fn T F.ref01_NatShl [a.val, .int .i64 n] h [] fun v _ L' => GrowS Ty.uint32 1 v (ln 65536 (m * 2 ^ n)) ((dg 65536 (m * 2 ^ n)).map (vu .u32)) L' := by
  have hal := ha.len
  have hma := ln_eq_zero two_le_b (n := m)
  obtain ⟨r, hr⟩ : ∃ r, r = n % 16 := ⟨_, rfl⟩
  obtain ⟨q, hq⟩ : ∃ q, q = n / 16 := ⟨_, rfl⟩
  have hr15 : r ≤ 15 := by omega
  have hpow : Hq (2 ^ n = 2 ^ r * 65536 ^ q) := ⟨by
    rw [show (65536 : Nat) = 2 ^ 16 from rfl, ← Nat.pow_mul, ← Nat.pow_add]; congr 1; omega⟩
  have hcase : (ln 65536 m = 0 ∨ n = 0) → m * 2 ^ n = m := fun hh => by
    rcases hh with hh | hh
    · rw [hma.1 hh, Nat.zero_mul]
    · rw [hh, Nat.pow_zero, Nat.mul_one]
  clear hma
  refine fn_of_codeI ok D.ref01_NatShl rfl ?_
  conv => whnf
  repeat ((first | refine opsI.step ?_ | refine codeI.step ?_); conv => whnf)
  repeat' first
   | (show App _ _ _ _ _ _ _ _ _; first
     | (refine App.any (s := .slice _ _ _) rfl (GrowS.new (z := .int .u32 0) (kd := .u32) 0 rfl) ha (by unfold ln at *; omega) (by decide) (fun v' L' g => ?_); conv => whnf))
   | (show QuoN _ _ _ _; first
     | (refine QuoN.i64 (by omega) (by omega) (by omega) ?_; conv => whnf))
   | (show Mk _ _ _; first
     | (refine Mk.of q (by omega) (by omega) (by omega) ?_; conv => whnf)
     | (refine Mk.of (q + ln 65536 m + 1) (by omega) (by omega) (by omega) ?_; conv => whnf))
   | (refine ⟨show q ≤ q + ln 65536 m + 1 by omega, ?_⟩; conv => whnf)
   | ((first | refine opsI.step ?_ | refine codeI.step ?_); conv => whnf)
   | (intro (_ : Nat); conv => whnf)
   | (show WrapN _ _ _; first
     | (refine WrapN.i64 (by omega) (by omega) ?_; conv => whnf))
   | (show cnd _ _ _; first
     | (refine cnd_le (fun _ => ?_) (fun _ => ?_) <;> first | (exfalso; omega) | (conv => whnf))
     | (refine cnd_eq (fun _ => ?_) (fun _ => ?_) <;> first | (exfalso; omega) | (conv => whnf)))
  · rw [hcase (.inl (by omega))]
    refine RetN.done ?_
    simpa [ln] using g
  · rw [hcase (.inr (by omega))]
    refine RetN.done ?_
    simpa [ln] using g
  clear hcase
  refine LoopN.of (fun d ρ h' L => ∃ (k : Nat) (v : Value) (xs : List Nat) (c : Nat), d = ln 65536 m - k ∧ h' = h ∧ rd ρ 31 = .int .i64 k ∧ rd ρ 6 = .int .u32 c ∧ rd ρ 5 = v ∧ GrowS Ty.uint32 1 v (q + k) (xs.map (vu .u32)) L ∧ k ≤ ln 65536 m ∧ xs.length = q + k ∧ (∀ x ∈ xs, x < 65536) ∧ c < 32768 ∧ Hq (c < 2 ^ r) ∧
      Hq (evl 65536 xs + c * 65536 ^ (q + k) = evl 65536 ((dg 65536 m).take k) * (2 ^ r * 65536 ^ q))) (ln 65536 m)
    ⟨0, _, List.replicate q 0, 0, rfl, rfl, rfl, rfl, rfl, GrowS.zero 0 rfl (by omega), by omega, by simp, by simp, by omega, ⟨Nat.two_pow_pos r⟩, ⟨by rw [evl_zeros 65536 (l := List.replicate q 0) (by simp)]; simp [evl_nil]⟩⟩ ?_
  conv => whnf
  repeat intro _
  rename_i rr h2 L2 hI
  obtain ⟨k, v, xs, c, rfl, rfl, e0, e1, e2, g, hk, hol, hoB, hcB, hc, heq⟩ := hI
  conv at e0 => lhs; whnf
  subst e0
  conv at e1 => lhs; whnf
  subst e1
  conv at e2 => lhs; whnf
  subst e2
  have hda := dg_getD_lt two_le_b m k
  have hpr : Hq (2 ^ r ≤ 32768) := ⟨Nat.pow_le_pow_right (n := 2) (by omega) hr15⟩
  conv => whnf
  repeat ((first | refine opsI.step ?_ | refine codeI.step ?_); conv => whnf)
  repeat' first
   | (show Idx _ _ _ _ _; first
     | (refine Idx.ws ha k (by omega) (by unfold ln at *; omega) (fun ad hv => ?_); conv => whnf))
   | (show Ld _ _ _ _; first
     | (refine Ld.of (by first | exact hv _ | (rename_i hv; exact hv _)) ?_; conv => whnf))
   | (show RemN _ _ _; first
     | (refine RemN.nn (by omega) (by omega) ?_; conv => whnf))
   | (show ShlN _ _ _ _; first
     | (refine ShlN.u32p (r := r) rfl (by omega) hda hr15 (fun p hp hp' => ?_); conv => whnf))
   | ((first | refine opsI.step ?_ | refine codeI.step ?_); conv => whnf)
   | (intro (_ : Nat); conv => whnf)
   | (show cnd _ _ _; first
     | (refine cnd_lt (fun _ => ?_) (fun _ => ?_) <;> first | (exfalso; omega) | (conv => whnf)))
   | (show WrapN _ _ _; first
     | (refine WrapN.u64 (by omega) (by omega) ?_; conv => whnf))
  · rename_i hv p hp hp'
    have hp0 : p % 2 ^ r = 0 := by rw [hp.out]; exact Nat.mul_mod_left _ _
    refine BitN.orq c p r rfl rfl hc.out hp0 (by show _ < 4294967296; omega) (by show _ < 4294967296; omega) rfl (fun _ => ?_)
    obtain ⟨s, hs⟩ : ∃ s, s = c + p := ⟨_, rfl⟩
    rw [← hs]
    have hsB : s / 65536 < 2 ^ r := by
      rw [Nat.div_lt_iff_lt_mul (by decide), hs, hp.out]
      have h1 : (dg 65536 m).getD k 0 * 2 ^ r + 2 ^ r ≤ 65536 * 2 ^ r := by
        have := Nat.mul_le_mul_right (2 ^ r) (show (dg 65536 m).getD k 0 + 1 ≤ 65536 by omega)
        rw [Nat.add_mul, Nat.one_mul] at this; exact this
      have := hc.out
      rw [Nat.mul_comm (2 ^ r)]; omega
    have hsB2 : s / 65536 < 32768 := Nat.lt_of_lt_of_le hsB hpr.out
    have hsB3 : s < 4294967296 := by omega
    replace hs := Hq.mk hs
    replace hp0 := Hq.mk hp0
    conv => whnf
    repeat ((first | refine opsI.step ?_ | refine codeI.step ?_); conv => whnf)
    repeat' first
     | (show RemN _ _ _; first
       | (refine RemN.nn (by omega) (by omega) ?_; conv => whnf))
     | (show QuoN _ _ _ _; first
       | (refine QuoN.u32 (by omega) (by omega) (by omega) ?_; conv => whnf))
     | (show App _ _ _ _ _ _ _ _ _; first
       | (refine App.push rfl g (s % 65536) (by omega) (by omega) (by decide) (fun v' L' g' => ?_); conv => whnf))
     | ((first | refine opsI.step ?_ | refine codeI.step ?_); conv => whnf)
     | (intro (_ : Nat); conv => whnf)
     | (show WrapN _ _ _; first
       | (refine WrapN.i64 (by omega) (by omega) ?_; conv => whnf))
    refine ⟨rfl, ln 65536 m - (k + 1), by omega, k + 1, v', _, s / 65536, rfl, rfl, vi (by omega), vi (by omega), rfl, g', by omega, by simp; omega, mem_snoc hoB (Nat.mod_lt _ (by decide)), hsB2, ⟨hsB⟩, ⟨?_⟩⟩
    rw [evl_snoc, hol, evl_take_next, Nat.add_mul, ← heq.out]
    have e3 : 65536 ^ (q + k) * (s % 65536) + s / 65536 * 65536 ^ (q + (k + 1)) = 65536 ^ (q + k) * s := by
      rw [← Nat.add_assoc, Nat.pow_succ, Nat.mul_comm (s / 65536), Nat.mul_assoc, ← Nat.mul_add, Nat.mod_add_div]
    have e4 : 65536 ^ k * (dg 65536 m).getD k 0 * (2 ^ r * 65536 ^ q) = 65536 ^ (q + k) * p := by
      rw [hp.out, Nat.pow_add]; ac_rfl
    have e5 : 65536 ^ (q + k) * s = c * 65536 ^ (q + k) + 65536 ^ (q + k) * p := by rw [hs.out, Nat.mul_add, Nat.mul_comm c]
    rw [e4]; omega
  · obtain rfl : k = ln 65536 m := by omega
    repeat' first
     | (show App _ _ _ _ _ _ _ _ _; first
       | (refine App.push rfl g c (by omega) (by omega) (by decide) (fun v' L' g' => ?_); conv => whnf))
     | ((first | refine opsI.step ?_ | refine codeI.step ?_); conv => whnf)
    have e : evl 65536 (xs ++ [c]) = m * 2 ^ n := by
      rw [evl_snoc, hol, Nat.mul_comm _ c, heq.out, evl_all two_le_b (Nat.le_refl _), hpow.out]
    refine CallN.trim g' (mem_snoc hoB (by omega)) (by simp; omega) fun v3 h3 hle g3 => ?_
    rw [e] at g3
    conv => whnf
    repeat ((first | refine opsI.step ?_ | refine codeI.step ?_); conv => whnf)
    skip
    exact RetN.done g3

theorem FzN.grow {e : TypeId} {kd : IntKind} {P : Heap → Own → Prop} {v : Value} {n : Nat} {xs : List Nat} {h : Heap} {L : Own} (g : GrowS e 1 v n (xs.map (vu kd)) L) (hk : ∀ h' (s : Sl), h.le h' → v = s.val → Ws kd h' s xs → P h' []) : FzN P h L := by
  obtain ⟨rfl, rfl, hx⟩ | ⟨i, b, cap, zs, rfl, h2, h3, h4⟩ := g.out
  · obtain rfl : xs = [] := by simpa using hx
    exact FzN.dropAll (hk h ⟨none, 0, 0⟩ (Heap.le_refl _) rfl (Ws.nil rfl))
  · exact FzN.keep i h2 fun hle => FzN.dropAll (hk _ ⟨some ⟨b, 0, none⟩, n, cap⟩ hle rfl (Ws.grown (by simpa using h4.symm) h3))
theorem NatShl_ct (h : Heap) (a : Sl) (m n : Nat) (ha : IsRef h a m) (la : ln 65536 m ≤ 17179869184) (hn : n ≤ 549755813888) :
    Fn0 T F.ref01_NatShl [a.val, .int .i64 n] h fun v h' => ∃ s : Sl, v = s.val ∧ IsRef h' s (m * 2 ^ n) :=
  Fn0.make (Fn.freeze (NatShl_ow h a m n ha la hn) fun v h' L' hl g => FzN.grow g fun h2 s _ hv w => ⟨rfl, s, hv, w⟩)
end Go.Proofs.YteblflmnhegmjaaDoor
