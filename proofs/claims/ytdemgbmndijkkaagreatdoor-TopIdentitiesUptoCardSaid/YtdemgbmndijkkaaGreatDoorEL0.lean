/- Natural numbers with a bound of their length: the contracts of package word's functions once more; the lowest bits. -/
import Derived.Test.YtdemgbmndijkkaaGreatDoorU2
import Derived.Test.YtdemgbmndijkkaaGreatDoorRB4
set_option linter.unusedVariables false
set_option linter.unusedSimpArgs false
namespace Go.Vc
open Go Go.Dig
/-- a natural number and a bound of its words -/
structure Nz (h : Heap) (s : Sl) (m k : Nat) : Prop where
  is : IsNat h s m
  le : ln 4294967296 m ≤ k
theorem Nz.mono {h h' : Heap} {s : Sl} {m k : Nat} (w : Nz h s m k) (hl : h.le h') : Nz h' s m k := ⟨w.is.mono hl, w.le⟩
theorem Nz.up {h : Heap} {s : Sl} {m k l : Nat} (w : Nz h s m k) (hk : k ≤ l) : Nz h s m l := ⟨w.is, Nat.le_trans w.le hk⟩
theorem Nz.re {h : Heap} {s : Sl} {m n k : Nat} (w : Nz h s m k) (e : m = n) : Nz h s n k := e ▸ w
/-- a better bound -/
theorem Nz.by_ln {h : Heap} {s : Sl} {m k l : Nat} (w : Nz h s m k) (hk : ln 4294967296 m ≤ l) : Nz h s m l := ⟨w.is, hk⟩
theorem ln_pow2_lt {m k : Nat} (h : m < 2 ^ (32 * k)) : ln 4294967296 m ≤ k := (ln_le_iff (by decide)).2 (by
  rw [show (4294967296 : Nat) = 2 ^ 32 from rfl, ← Nat.pow_mul]; exact h)
theorem ln_two_pow_le {n k : Nat} (h : n < 32 * k) : ln 4294967296 (2 ^ n) ≤ k := ln_pow2_lt (Nat.pow_lt_pow_right (by decide) h)
theorem allW_imp {ws : List Nat} : ∀ {i : Nat} {ρ : Env} {p q : Env → Prop}, (∀ ρ', p ρ' → q ρ') → allW ws i ρ p → allW ws i ρ q
  | i, [], p, q, f, h => f _ h
  | i, x :: ρ, p, q, f, h => by
    cases hc : ws.contains i with
    | true =>
      simp only [allW, hc] at h ⊢
      exact fun y => allW_imp (fun ρ' => f _) (h y)
    | false =>
      simp only [allW, hc] at h ⊢
      exact allW_imp (fun ρ' => f _) h
/-- a loop that leaves the own memory as it is -/
theorem LoopN.keepL {body : Post → Env → Heap → Vc.Own → Prop} {ws : List Nat} {Q : Post} {ρ : Env} {h : Heap} {L : Vc.Own} (I : Nat → Env → Heap → Prop) (n0 : Nat) (h0 : I n0 ρ h)
    (hr : allW ws 0 ρ fun ρ' => ∀ r h', h.le h' → I r ρ' h' → body (fun e ρ'' h'' L'' => match e with | .normal => ρ'' = over ws 0 ρ ρ'' ∧ ∃ m, m < r ∧ h.le h'' ∧ L'' = L ∧ I m ρ'' h'' | e => Q e ρ'' h'' L'') ρ' h' L) : LoopN body ws Q ρ h L := by
  refine LoopN.of (fun r ρ' h' L' => h.le h' ∧ L' = L ∧ I r ρ' h') n0 ⟨Heap.le_refl _, rfl, h0⟩ ?_
  refine allW_imp (fun ρ' x r h' L' hI => ?_) hr
  obtain ⟨h1, rfl, h3⟩ := hI
  exact x r h' h1 h3
theorem LdN.ownAt {h : Heap} {L : Own} {b o m : Nat} {k : Value → Prop} {l : List Value} {T : TypeId} {fz : Nat × Nat} (n : Nat) (hb : L[n]? = some (b, .cells l.toArray T fz)) (hl : Nat.ble (o + m) l.length = true) (hk : k (.agg ((l.drop o).take m).toArray)) : LdN h L ⟨b, o, none⟩ m k :=
  have hle := Nat.le_of_ble_eq_true hl
  ⟨(l.drop o).take m, by rw [List.length_take, List.length_drop]; omega, fun i hi => by
    rw [add_lit]
    refine Has.own n hb ?_
    rw [List.getElem?_toArray, List.getD_eq_getElem?_getD, List.getElem?_take, if_pos hi, List.getElem?_drop, List.getElem?_eq_getElem (by omega)]
    rfl, hk⟩
end Go.Vc
namespace Go.Proofs.YtdemgbmndijkkaaGreatDoor
open Go Go.Vc Go.Dig
theorem SmallZ (h : Heap) (n : Nat) (hn : n < 18446744073709551616) : Fn0 T F.word_Small [.int .u64 n] h fun v h' => ∃ s : Sl, v = s.val ∧ Nz h' s n 2 :=
  (Small_ct h n hn).mono fun v h' _ r => by
    obtain ⟨s, e, w⟩ := r
    exact ⟨s, e, w, (ln_le_iff (k := 2) two_le_B).2 (show n < 4294967296 ^ 2 by omega)⟩
theorem OfZ (h : Heap) (s : Sl) (n k : Nat) (w : Nz h s n k) (hk : k ≤ 1000000) : Fn0 T F.word_Of [s.val] h fun v h' => ∃ s' : Sl, v = s'.val ∧ Nz h' s' n k :=
  (Of_ct h s (dg 4294967296 n) w.is (fun x hx => dg_lt two_le_B _ _ hx) (by have := w.le; unfold ln at this; omega)).mono fun v h' _ r => by
    obtain ⟨s', e, w'⟩ := r
    rw [evl_dg two_le_B] at w'
    exact ⟨s', e, w', w.le⟩
theorem MulZ (h : Heap) (a b : Sl) (m n k l : Nat) (ha : Nz h a m k) (hb : Nz h b n l) (hk : k ≤ 1000000) (hl : l ≤ 1000000) : Fn0 T F.word_Nat_Mul [a.val, b.val] h fun v h' => ∃ s : Sl, v = s.val ∧ Nz h' s (m * n) (k + l) :=
  (Mul_ct h a b m n ha.is hb.is (by have := ha.le; omega) (by have := hb.le; omega)).mono fun v h' _ r => by
    obtain ⟨s', e, w'⟩ := r
    exact ⟨s', e, w', by have := ln_mul two_le_B m n; have := ha.le; have := hb.le; omega⟩
theorem AddZ (h : Heap) (a b : Sl) (m n k l : Nat) (ha : Nz h a m k) (hb : Nz h b n l) (hk : k ≤ 1000000) (hl : l ≤ 1000000) : Fn0 T F.word_Nat_Add [a.val, b.val] h fun v h' => ∃ s : Sl, v = s.val ∧ Nz h' s (m + n) (k + l + 1) :=
  (Add_ct h a b m n ha.is hb.is (by have := ha.le; omega) (by have := hb.le; omega)).mono fun v h' _ r => by
    obtain ⟨s', e, w'⟩ := r
    exact ⟨s', e, w', by have := ln_add two_le_B m n; have := ha.le; have := hb.le; omega⟩
theorem SubZ (h : Heap) (a b : Sl) (m n k l : Nat) (ha : Nz h a m k) (hb : Nz h b n l) (hk : k ≤ 1000000) (hnm : n ≤ m) : Fn0 T F.word_Nat_Sub [a.val, b.val] h fun v h' => ∃ s : Sl, v = s.val ∧ Nz h' s (m - n) k :=
  (Sub_ct h a b m n ha.is hb.is (by have := ha.le; omega) hnm).mono fun v h' _ r => by
    obtain ⟨s', e, w'⟩ := r
    exact ⟨s', e, w', Nat.le_trans (ln_le_of_le (Nat.sub_le m n)) ha.le⟩
theorem ShlZ (h : Heap) (a : Sl) (m k n : Nat) (x : Int) (hx : x = n) (ha : Nz h a m k) (hk : k ≤ 1000000) (hn : n ≤ 2000) : Fn0 T F.word_Nat_Shl [a.val, .int .i64 x] h fun v h' => ∃ s : Sl, v = s.val ∧ Nz h' s (m * 2 ^ n) (k + 2001) := by
  subst hx
  refine (Shl_ct h a m n ha.is (by have := ha.le; omega) (by omega)).mono fun v h' _ r => ?_
  obtain ⟨s', e, w'⟩ := r
  exact ⟨s', e, w', by have := ln_mul two_le_B m (2 ^ n); have := ha.le; have := ln_two_pow n; omega⟩
theorem ShrZ (h : Heap) (a : Sl) (m k n : Nat) (x : Int) (hx : x = n) (ha : Nz h a m k) (hk : k ≤ 1000000) (hn : n ≤ 2000) : Fn0 T F.word_Nat_Shr [a.val, .int .i64 x] h fun v h' => ∃ s : Sl, v = s.val ∧ Nz h' s (m / 2 ^ n) k := by
  subst hx
  refine (Shr_ct h a m n ha.is (by have := ha.le; omega) (by omega)).mono fun v h' _ r => ?_
  obtain ⟨s', e, w'⟩ := r
  exact ⟨s', e, w', by have := ln_div m (2 ^ n); have := ha.le; omega⟩
theorem DivZ (h : Heap) (a b : Sl) (m n k l : Nat) (ha : Nz h a m k) (hb : Nz h b n l) (hk : k ≤ 1000000) (hl : l ≤ 1000000) (h0 : n ≠ 0) : Fn0 T F.word_Nat_Div [a.val, b.val] h fun v h' => ∃ q r : Sl, v = .tuple #[q.val, r.val] ∧ Nz h' q (m / n) k ∧ Nz h' r (m % n) k :=
  (Div_ct h a b m n ha.is hb.is (by have := ha.le; omega) (by have := hb.le; omega) h0).mono fun v h' _ r => by
    obtain ⟨q, r', e, w1, w2⟩ := r
    exact ⟨q, r', e, ⟨w1, Nat.le_trans (ln_div m n) ha.le⟩, ⟨w2, Nat.le_trans (ln_le_of_le (Nat.mod_le m n)) ha.le⟩⟩
theorem DivSmallZ (h : Heap) (a : Sl) (m k d : Nat) (x : Int) (hx : x = d) (ha : Nz h a m k) (hk : k ≤ 1000000) (hd : d < 4294967296) (h0 : 0 < d) : Fn0 T F.word_Nat_DivSmall [a.val, .int .u32 x] h fun v h' => ∃ s : Sl, v = .tuple #[s.val, .int .u32 (m % d : Nat)] ∧ Nz h' s (m / d) k := by
  subst hx
  refine (DivSmall_ct h a m d ha.is (by have := ha.le; omega) hd h0).mono fun v h' _ r => ?_
  obtain ⟨s', e, w'⟩ := r
  exact ⟨s', e, w', Nat.le_trans (ln_div m d) ha.le⟩
theorem ZeroZ (h : Heap) (s : Sl) (n k : Nat) (w : Nz h s n k) (hk : k ≤ 1000000) : Fn0 T F.word_Nat_Zero [s.val] h fun v h' => h' = h ∧ v = .bool (dec (n = 0)) := Zero_ct h s n w.is (by have := w.le; omega)
theorem OneZ (h : Heap) (s : Sl) (n k : Nat) (w : Nz h s n k) (hk : k ≤ 1000000) : Fn0 T F.word_Nat_One [s.val] h fun v h' => h' = h ∧ v = .bool (dec (n = 1)) := One_ct h s n w.is (by have := w.le; omega)
theorem BitsZ (h : Heap) (s : Sl) (n k : Nat) (w : Nz h s n k) (hk : k ≤ 1000000) : Fn0 T F.word_Nat_Bits [s.val] h fun v h' => h' = h ∧ v = .int .i64 (bl n : Nat) := Bits_ct h s n w.is (by have := w.le; omega)
theorem CmpZ (h : Heap) (a b : Sl) (m n k l : Nat) (ha : Nz h a m k) (hb : Nz h b n l) (hk : k ≤ 1000000) (hl : l ≤ 1000000) : Fn0 T F.word_Nat_Cmp [a.val, b.val] h fun v h' => h' = h ∧ v = .int .i64 (cmpI m n) :=
  Cmp_ct h a b m n ha.is hb.is (by have := ha.le; omega) (by have := hb.le; omega)
theorem tw_mod {a n : Nat} (h : a ≠ 0) : tw a < n ↔ a % 2 ^ n ≠ 0 := by
  have := tw_le (k := n) h
  rw [Nat.dvd_iff_mod_eq_zero] at this
  rw [← Nat.not_le, this]
set_option maxRecDepth 20000 in
theorem LowZ (h : Heap) (tb : Tb h) (s : Sl) (a k n : Nat) (x : Int) (hx : x = n) (w : Nz h s a k) (hk : k ≤ 1000000) (hn : n ≤ 2000) : Fn0 T F.word_Nat_Low [s.val, .int .i64 x] h fun v h' => h' = h ∧ v = .bool (dec (a % 2 ^ n ≠ 0)) := by
  subst hx
  have wi := w.is
  have wl := w.le
  have hal := wi.len
  have hz := ln_eq_zero two_le_B (n := a)
  have ht := fun h0 => tw_mod (a := a) (n := n) h0
  replace ht := Hq.mk ht
  have t1 := tw_le_ln a
  refine fn0_of_codeI ok D.word_Nat_Low rfl ?_
  conv => whnf
  repeat ((first | refine opsI.step ?_ | refine codeI.step ?_); conv => whnf)
  repeat' first
   | (show CallN _ _ _ _ _ _; first
     | (refine CallN.quiet rfl (Twos_ct _ (by assumption) _ _ (by assumption) (by omega)) ?_; conv => whnf))
   | ((first | refine opsI.step ?_ | refine codeI.step ?_); conv => whnf)
   | (show cnd _ _ _; first
     | (refine cnd_lt (fun _ => ?_) (fun _ => ?_) <;> first | (exfalso; omega) | (conv => whnf)))
  · have h0 : a ≠ 0 := fun e => by rw [hz.2 e] at hal; omega
    by_cases hc : tw a < n
    · exact RetN.all ⟨rfl, by rw [dec_true ((ht.out h0).1 hc), lt_true' (by omega)]⟩
    · exact RetN.all ⟨rfl, by rw [dec_false (fun x => hc ((ht.out h0).2 x)), lt_false' (by omega)]⟩
  · have h0 : a = 0 := hz.1 (by omega)
    exact RetN.all ⟨rfl, by rw [dec_false (fun x => x (by rw [h0, Nat.zero_mod]))]⟩
end Go.Proofs.YtdemgbmndijkkaaGreatDoor