/- Texts: the reference's decimal digits of a number. -/
import Derived.Test.YthgggofobbokeaaDoorT1
import Derived.Test.YthgggofobbokeaaDoorR3
import Derived.Test.YthgggofobbokeaaDoorR6
set_option linter.unusedVariables false
set_option linter.unusedSimpArgs false
namespace Go.Proofs.YthgggofobbokeaaDoor
open Go Go.Vc Go.Dig

theorem getD_map48 {ds : List Nat} {j : Nat} (hj : j < ds.length) : (ds.map (48 + ·)).getD j 0 = 48 + ds.getD j 0 := by
  simp [List.getD_eq_getElem?_getD, hj]
theorem drop_snoc {l : List Nat} {k : Nat} (h0 : 0 < k) (hk : k ≤ l.length) : (l.drop (k - 1)).reverse = (l.drop k).reverse ++ [l.getD (k - 1) 0] := by
  have h : k - 1 < l.length := by omega
  rw [List.drop_eq_getElem_cons h, List.reverse_cons, show k - 1 + 1 = k by omega]
  simp [List.getD_eq_getElem?_getD, h]
set_option maxRecDepth 20000 in
set_option maxHeartbeats 2000000 in
theorem natText_ct (h : Heap) (a : Sl) (n : Nat) (ha : IsRef h a n) (la : ln 65536 n ≤ 65536) (lb : ln 10 n ≤ 1048576) : Fn0 T F.ref01_natText [a.val] h fun v _ => v = .string (txt (decL n)) := by
  have hal := ha.len
  have hz := ln_eq_zero two_le_b (n := n)
  by_cases h00 : n = 0
  · have hz0 := hz.2 h00
    clear hz
    refine fn0_of_codeI ok D.ref01_natText rfl ?_
    conv => whnf
    repeat ((first | refine opsI.step ?_ | refine codeI.step ?_); conv => whnf)
    repeat' first
     | ((first | refine opsI.step ?_ | refine codeI.step ?_); conv => whnf)
     | (show cnd _ _ _; first
       | (refine cnd_eq (fun _ => ?_) (fun _ => ?_) <;> first | (exfalso; omega) | (conv => whnf)))
    exact RetN.all (by rw [decL, if_pos h00]; rfl)
  have hz0 : ln 65536 n ≠ 0 := fun e => h00 (hz.1 e)
  clear hz
  refine fn0_of_codeI ok D.ref01_natText rfl ?_
  conv => whnf
  repeat ((first | refine opsI.step ?_ | refine codeI.step ?_); conv => whnf)
  repeat' first
   | ((first | refine opsI.step ?_ | refine codeI.step ?_); conv => whnf)
   | (show cnd _ _ _; first
     | (refine cnd_eq (fun _ => ?_) (fun _ => ?_) <;> first | (exfalso; omega) | (conv => whnf)))
  clear hz0 hal
  refine LoopN.of (fun r ρ h' L => ∃ (a : Sl) (v : Value) (ds : List Nat), h.le h' ∧ rd ρ 0 = a.val ∧ IsRef h' a r ∧ rd ρ 3 = v ∧ GrowS Ty.uint8 1 v ds.length ((ds.map (48 + ·)).map (vu .u8)) L ∧ ln 65536 r ≤ 65536 ∧ ds.length ≤ 1048580 ∧ (∀ d ∈ ds, d < 10) ∧ Hq (evl 10 ds + 10 ^ ds.length * r = n)) n
    ⟨a, _, [], Heap.le_refl _, rfl, ha, rfl, GrowS.none, la, by simp, by simp, ⟨by simp [evl_nil]⟩⟩ ?_
  conv => whnf
  repeat intro _
  rename_i r h1 L1 hI
  obtain ⟨a, v, ds, hle, e0, ha, e3, g, hlr, hdl, hd10, hE⟩ := hI
  conv at e0 => lhs; whnf
  subst e0
  conv at e3 => lhs; whnf
  subst e3
  have hal := ha.len
  have hz := ln_eq_zero two_le_b (n := r)
  by_cases h0 : r = 0
  · subst h0
    have hz0 := hz.2 rfl
    clear hz
    have hev := hE.out
    rw [Nat.mul_zero, Nat.add_zero] at hev
    have hne : ds.length ≠ 0 := fun e => by
      rw [List.eq_nil_of_length_eq_zero e, evl_nil] at hev
      exact h00 hev.symm
    obtain ⟨g1, ⟨rfl, g2⟩ | ⟨i, b, cap, zs, rfl, g2, g3, g4⟩⟩ := g
    · exact absurd g2 hne
    obtain ⟨E, hEe⟩ : ∃ E, E = ds.map (48 + ·) := ⟨_, rfl⟩
    have hEl : E.length = ds.length := by rw [hEe]; simp
    have hEg : ∀ j, j < ds.length → E.getD j 0 = 48 + ds.getD j 0 := fun j hj => by rw [hEe]; exact getD_map48 hj
    have hE8 : ∀ y ∈ E, y < 256 := fun y hy => by
      rw [hEe] at hy
      obtain ⟨x, hx, rfl⟩ := List.mem_map.1 hy
      have := hd10 x hx
      omega
    rw [← hEe] at g1 g2 g4
    conv => whnf
    repeat ((first | refine opsI.step ?_ | refine codeI.step ?_); conv => whnf)
    repeat' first
     | ((first | refine opsI.step ?_ | refine codeI.step ?_); conv => whnf)
     | (show cnd _ _ _; first
       | (refine cnd_lt (fun _ => ?_) (fun _ => ?_) <;> first | (exfalso; omega) | (conv => whnf)))
    refine LoopN.keep i g2 fun hle4 => ?_
    have w : Ws .u8 (h1.put b (.cells (E.map (vu .u8) ++ zs).toArray Ty.uint8 (0, 0))) ⟨some ⟨b, 0, none⟩, ds.length, cap⟩ E := Ws.grown hEl.symm g3
    obtain ⟨h5, hh5⟩ : ∃ h5, h5 = h1.put b (.cells (E.map (vu .u8) ++ zs).toArray Ty.uint8 (0, 0)) := ⟨_, rfl⟩
    rw [← hh5] at w
    rw [← hh5]
    obtain ⟨L5, hL5⟩ : ∃ L5, L5 = L1.eraseIdx i := ⟨_, rfl⟩
    rw [← hL5]
    refine LoopN.of (fun u ρ h' L => h' = h5 ∧ L = L5 ∧ rd ρ 6 = .int .i64 u ∧ 1 ≤ u ∧ u ≤ ds.length ∧ Hq (∀ i, u ≤ i → i < ds.length → ds.getD i 0 = 0)) ds.length
      ⟨rfl, rfl, rfl, by omega, by omega, ⟨fun i h1 h2 => by omega⟩⟩ ?_
    conv => whnf
    repeat intro _
    rename_i u h6 L6 hI
    obtain ⟨rfl, rfl, e6, hu1, hu2, hzz⟩ := hI
    conv at e6 => lhs; whnf
    subst e6
    have hget := hEg (u - 1) (by omega)
    have hstop : u = 1 ∨ ds.getD (u - 1) 0 ≠ 0 → dg 10 n = ds.take u := fun hh => by
      rw [← hev]
      refine dg_take two_le_10 hu2 hd10 hzz.out (.inr ?_)
      rcases hh with rfl | hh
      · intro h0
        apply h00
        rw [← hev]
        refine evl_zeros 10 fun x hx => ?_
        obtain ⟨j, hj, rfl⟩ := List.getElem_of_mem hx
        by_cases hj0 : j = 0
        · subst hj0
          simpa [List.getD_eq_getElem?_getD, hj] using h0
        · have := hzz.out j (by omega) hj
          simpa [List.getD_eq_getElem?_getD, hj] using this
      · exact hh
    have hnext : ds.getD (u - 1) 0 = 0 → ∀ i, u - 1 ≤ i → i < ds.length → ds.getD i 0 = 0 := fun h0 i h1 h2 => by
      by_cases hi : i = u - 1
      · subst hi; exact h0
      · exact hzz.out i (by omega) h2
    replace hstop := Hq.mk hstop
    replace hnext := Hq.mk hnext
    conv => whnf
    repeat ((first | refine opsI.step ?_ | refine codeI.step ?_); conv => whnf)
    repeat' first
     | (show Idx _ _ _ _ _; first
       | (refine Idx.ws w (u - 1) (by omega) (by omega) (fun ad hv => ?_); conv => whnf))
     | (show Ld _ _ _ _; first
       | (refine Ld.of (by first | exact hv _ | (rename_i hv; exact hv _)) ?_; conv => whnf))
     | (show Mk _ _ _; first
       | (refine Mk.of 0 (by omega) (by omega) (by omega) ?_; conv => whnf)
       | (refine Mk.of u (by omega) (by omega) (by omega) ?_; conv => whnf))
     | (refine ⟨Nat.zero_le _, ?_⟩; conv => whnf)
     | ((first | refine opsI.step ?_ | refine codeI.step ?_); conv => whnf)
     | (intro (_ : Nat); conv => whnf)
     | (show WrapN _ _ _; first
       | (refine WrapN.i64 (by omega) (by omega) ?_; conv => whnf))
     | (show cnd _ _ _; first
       | (refine cnd_lt (fun _ => ?_) (fun _ => ?_) <;> first | (exfalso; omega) | (conv => whnf))
       | (refine cnd_eq (fun _ => ?_) (fun _ => ?_) <;> first | (exfalso; omega) | (conv => whnf)))
    all_goals first
      | exact ⟨rfl, u - 1, by omega, rfl, rfl, vi (by omega), by omega, by omega, ⟨hnext.out (by omega)⟩⟩
      | skip
    all_goals
      have hds : dg 10 n = ds.take u := hstop.out (by omega)
      obtain ⟨G, hG⟩ : ∃ G, G = E.take u := ⟨_, rfl⟩
      have hGl : G.length = u := by rw [hG]; simp; omega
      have hGg : ∀ j, j < u → G.getD j 0 = E.getD j 0 := fun j hj => by
        rw [hG]; simp [List.getD_eq_getElem?_getD, List.getElem?_take, hj]
      have hG8 : ∀ y ∈ G, y < 256 := fun y hy => hE8 y (by rw [hG] at hy; exact List.mem_of_mem_take hy)
      have hGd : G.reverse = decL n := by
        rw [decL, if_neg h00, hds, hG, hEe, List.map_take]
      clear hstop hnext hG
      refine LoopN.of (fun k ρ h' L => ∃ (v : Value), Ws .u8 h' ⟨some ⟨b, 0, none⟩, ds.length, cap⟩ E ∧ rd ρ 8 = .int .i64 ((k : Int) - 1) ∧ rd ρ 7 = v ∧ k ≤ u ∧ GrowS Ty.uint8 1 v (u - k) ((G.drop k).reverse.map (vu .u8)) L) u
        ⟨_, w, vi (by omega), rfl, Nat.le_refl _, by rw [Nat.sub_self, List.drop_of_length_le (by omega)]; exact GrowS.new 0 rfl⟩ ?_
      clear w
      conv => whnf
      repeat intro _
      rename_i k h7 L7 hI
      obtain ⟨v, w, e8, e7, hk, g⟩ := hI
      conv at e7 => lhs; whnf
      subst e7
      conv at e8 => lhs; whnf
      subst e8
      have hget := hGg (k - 1)
      replace hget := Hq.mk hget
      conv => whnf
      repeat ((first | refine opsI.step ?_ | refine codeI.step ?_); conv => whnf)
    all_goals (repeat' first
       | (show Idx _ _ _ _ _; first
         | (refine Idx.ws w (k - 1) (by omega) (by omega) (fun ad hv => ?_); conv => whnf))
       | (show Ld _ _ _ _; first
         | (refine Ld.of (by first | exact hv _ | (rename_i hv; exact hv _)) ?_; conv => whnf))
       | (show App _ _ _ _ _ _ _ _ _; first
         | (refine App.push rfl g (E.getD (k - 1) 0) rfl (by omega) (by decide) (fun v' L' g' => ?_); conv => whnf))
       | (show Ext _ _ _ _ _ _ _; first
         | (refine Ext.text rfl rfl rfl g (fun y hy => hG8 y (List.mem_of_mem_drop (List.mem_reverse.1 hy))) (fun hh => by have := congrArg List.length hh; simp at this; omega) ?_; conv => whnf))
       | ((first | refine opsI.step ?_ | refine codeI.step ?_); conv => whnf)
       | (intro (_ : Nat); conv => whnf)
       | (show WrapN _ _ _; first
         | (refine WrapN.i64 (by omega) (by omega) ?_; conv => whnf))
       | (show cnd _ _ _; first
         | (refine cnd_le (fun _ => ?_) (fun _ => ?_) <;> first | (exfalso; omega) | (conv => whnf))))
    all_goals first
      | (rename_i g'; exact ⟨rfl, k - 1, by omega, _, w, vi (by omega), rfl, by omega, by rw [drop_snoc (by omega) (by omega), hget.out (by omega), show u - (k - 1) = u - k + 1 by omega]; exact g'⟩)
      | (obtain rfl : k = 0 := by omega
         exact RetN.all (by rw [← hGd, List.drop_zero]))
  · have hz0 : ln 65536 r ≠ 0 := fun e => h0 (hz.1 e)
    clear hz
    have hdl2 : ds.length ≤ 1048576 := by
      have h1 : 10 ^ ds.length * 1 ≤ n := Nat.le_trans (Nat.mul_le_mul_left _ (by omega : 1 ≤ r)) (by have := hE.out; omega)
      have h2 : n < 10 ^ ln 10 n := lt_pow_ln two_le_10 n
      have h3 : 10 ^ ds.length < 10 ^ ln 10 n := by omega
      have := (Nat.pow_lt_pow_iff_right (by decide : 1 < 10)).1 h3
      omega
    obtain ⟨R0, hR0⟩ : ∃ R0, R0 = r % 10000 := ⟨_, rfl⟩
    obtain ⟨Q0, hQ0⟩ : ∃ Q0, Q0 = r / 10000 := ⟨_, rfl⟩
    have hq1 : ln 65536 Q0 ≤ 65536 := by rw [hQ0]; exact Nat.le_trans (ln_mono two_le_b (Nat.div_le_self r _)) hlr
    have hQr : Q0 < r := by omega
    conv => whnf
    repeat ((first | refine opsI.step ?_ | refine codeI.step ?_); conv => whnf)
    repeat' first
     | (show CallN _ _ _ _ _ _; first
       | (refine CallN.fn rfl (small_ct _ _ r 10000 (by assumption) (by omega) (by decide) (by decide)) (fun v h2 hl2 hr => ?_); rw [← hR0, ← hQ0] at hr; obtain ⟨qs, rfl, hqs⟩ := hr; conv => whnf))
     | ((first | refine opsI.step ?_ | refine codeI.step ?_); conv => whnf)
     | (show cnd _ _ _; first
       | (refine cnd_lt (fun _ => ?_) (fun _ => ?_) <;> first | (exfalso; omega) | (conv => whnf)))
    refine LoopN.of (fun u ρ h' L => ∃ (i : Nat) (v : Value) (es : List Nat) (R : Nat), u = 4 - i ∧ i ≤ 4 ∧ h2.le h' ∧ rd ρ 20 = .int .i64 i ∧ rd ρ 5 = .int .u32 R ∧ rd ρ 3 = v ∧ GrowS Ty.uint8 1 v es.length ((es.map (48 + ·)).map (vu .u8)) L ∧ es.length = ds.length + i ∧ (∀ d ∈ es, d < 10) ∧ R < 10000 ∧ Hq (R < 10 ^ (4 - i)) ∧ Hq (evl 10 es + 10 ^ es.length * (Q0 * 10 ^ (4 - i) + R) = n)) 4
      ⟨0, _, ds, R0, rfl, by omega, Heap.le_refl _, rfl, rfl, rfl, g, by omega, hd10, by omega, ⟨by omega⟩, ⟨by rw [hR0, hQ0, Nat.mul_comm (r / 10000), Nat.div_add_mod]; exact hE.out⟩⟩ ?_
    conv => whnf
    repeat intro _
    rename_i u h3 L3 hI
    obtain ⟨i, v, es, R, rfl, hi, hle3, e20, e5, e3, g, hel, he10, hR4, hR, hx⟩ := hI
    conv at e3 => lhs; whnf
    subst e3
    conv at e5 => lhs; whnf
    subst e5
    conv at e20 => lhs; whnf
    subst e20
    have hnx : i < 4 → evl 10 (es ++ [R % 10]) + 10 ^ (es ++ [R % 10]).length * (Q0 * 10 ^ (4 - (i + 1)) + R / 10) = n := fun hc => by
      have hP2 : 10 ^ (4 - i) = 10 * 10 ^ (4 - (i + 1)) := by rw [← Nat.pow_succ']; congr 1; omega
      have h := hx.out
      rw [hP2] at h
      rw [evl_append, List.length_append, List.length_singleton, Nat.pow_succ, evl_cons, evl_nil, Nat.mul_zero, Nat.add_zero, ← h, Nat.add_assoc]
      congr 1
      rw [Nat.mul_assoc, ← Nat.mul_add]
      congr 1
      obtain ⟨X, hX⟩ : ∃ X, X = Q0 * 10 ^ (4 - (i + 1)) := ⟨_, rfl⟩
      rw [Nat.mul_left_comm, ← hX]
      omega
    have hRn : i < 4 → R / 10 < 10 ^ (4 - (i + 1)) := fun hc => by
      have hP2 : 10 ^ (4 - i) = 10 * 10 ^ (4 - (i + 1)) := by rw [← Nat.pow_succ']; congr 1; omega
      have h := hR.out
      rw [hP2] at h
      omega
    have hlast : i = 4 → evl 10 es + 10 ^ es.length * Q0 = n := fun hc => by
      subst hc
      have h1 := hR.out
      have h2 := hx.out
      rw [Nat.sub_self, Nat.pow_zero] at h1 h2
      obtain rfl : R = 0 := by omega
      simpa using h2
    have hm : ∀ d ∈ es ++ [R % 10], d < 10 := mem_snoc he10 (by omega)
    replace hnx := Hq.mk hnx
    replace hlast := Hq.mk hlast
    replace hRn := Hq.mk hRn
    clear hx hR
    conv => whnf
    repeat ((first | refine opsI.step ?_ | refine codeI.step ?_); conv => whnf)
    repeat' first
     | (show RemN _ _ _; first
       | (refine RemN.nn (by omega) (by omega) ?_; conv => whnf))
     | (show QuoN _ _ _ _; first
       | (refine QuoN.u32 (by omega) (by omega) (by omega) ?_; conv => whnf))
     | (show App _ _ _ _ _ _ _ _ _; first
       | (refine App.push rfl g (48 + R % 10) (by omega) (by omega) (by decide) (fun v' L' g' => ?_); conv => whnf))
     | ((first | refine opsI.step ?_ | refine codeI.step ?_); conv => whnf)
     | (intro (_ : Nat); conv => whnf)
     | (show WrapN _ _ _; first
       | (refine WrapN.i64 (by omega) (by omega) ?_; conv => whnf)
       | (refine WrapN.u32 (by omega) (by omega) ?_; conv => whnf)
       | (refine WrapN.u8 (by omega) (by omega) ?_; conv => whnf))
     | (show cnd _ _ _; first
       | (refine cnd_lt (fun _ => ?_) (fun _ => ?_) <;> first | (exfalso; omega) | (conv => whnf)))
    all_goals first
      | (rename_i g'; exact ⟨rfl, 4 - (i + 1), by omega, i + 1, _, es ++ [R % 10], R / 10, rfl, by omega, hle3, vi (by omega), vi (by omega), rfl, by rw [List.length_append, List.map_append]; exact g', by rw [List.length_append, hel]; simp; omega, hm, by omega, ⟨hRn.out (by omega)⟩, ⟨hnx.out (by omega)⟩⟩)
      | exact ⟨rfl, Q0, hQr, qs, _, es, (by (iterate 30 (try first | assumption | refine Heap.le_trans ?_ (by assumption))); first | done | assumption), rfl, (by (iterate 30 (try first | assumption | refine IsRef.mono ?_ (by assumption))); first | done | assumption), rfl, g, hq1, by omega, he10, ⟨hlast.out (by omega)⟩⟩
end Go.Proofs.YthgggofobbokeaaDoor
