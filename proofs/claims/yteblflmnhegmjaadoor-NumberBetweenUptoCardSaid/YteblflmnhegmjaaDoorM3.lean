/- The program's simplest number between two. -/
import Derived.Test.YteblflmnhegmjaaDoorV1
import Derived.Test.YteblflmnhegmjaaDoorM2
set_option linter.unusedVariables false
set_option linter.unusedSimpArgs false
namespace Go.Proofs.YteblflmnhegmjaaDoor
open Go Go.Vc Go.Dig

/-- a number that is not negative, by its parts -/
structure IsP (h : Heap) (a b : Sl) (n d : Nat) : Prop where
  ex : ∃ q, IsFr h a b q ∧ Pr q n d
theorem IsP.mono {h h' : Heap} {a b : Sl} {n d : Nat} (w : IsP h a b n d) (hl : h.le h') : IsP h' a b n d := let ⟨q, i, p⟩ := w.ex; ⟨q, i.mono hl, p⟩
theorem prsz {q : Rat} {n d k : Nat} (p : Pr q n d) (h1 : ln 4294967296 n ≤ k) (h2 : ln 4294967296 d ≤ k) : Sz k q := ⟨by rw [p.n]; exact h1, by rw [p.d]; exact h2⟩
theorem P_grid (h : Heap) (tb : Tb h) (a b : Sl) (n d : Nat) (i : IsP h a b n d) (l1 : ln 4294967296 n ≤ 1073741824) (l2 : ln 4294967296 d ≤ 1073741824) :
    Fn0 T F.word_Frac_Grid [.agg #[.bool false, a.val, b.val], .int .i64 0, .bool false] h fun v h' => ∃ s t : Sl, v = .agg #[.bool false, s.val, t.val] ∧ IsP h' s t (n / d) 1 := by
  obtain ⟨q, i, p⟩ := i.ex
  have := FGrid_ct h tb a b q 0 false i (prsz p l1 l2) (by decide)
  rw [p.s, p.floor.s] at this
  exact this.mono fun v h' _ ⟨s, t, e, j⟩ => ⟨s, t, e, _, j, p.floor⟩
theorem P_cmp (h : Heap) (a b c d' : Sl) (n d m e : Nat) (i : IsP h a b n d) (j : IsP h c d' m e) (l1 : ln 4294967296 n ≤ 1073741824) (l2 : ln 4294967296 d ≤ 1073741824) (l3 : ln 4294967296 m ≤ 1073741824) (l4 : ln 4294967296 e ≤ 1073741824) :
    Fn0 T F.word_Frac_Cmp [.agg #[.bool false, a.val, b.val], .agg #[.bool false, c.val, d'.val]] h fun v _ => v = .int .i64 (cmpI (n * e) (m * d)) := by
  obtain ⟨q, i, p⟩ := i.ex
  obtain ⟨r, j, p'⟩ := j.ex
  have := FCmp_ct h a b c d' q r i j (prsz p l1 l2) (prsz p' l3 l4)
  rw [p.s, p'.s, p.cmp p'] at this
  exact this
theorem P_one (h : Heap) : Fn0 T F.word_Int [.int .i64 1] h fun v h' => ∃ s t : Sl, v = .agg #[.bool false, s.val, t.val] ∧ IsP h' s t 1 1 := by
  have := FInt_ct h 1 (by decide) (by decide)
  rw [Pr.one.s] at this
  exact this.mono fun v h' _ ⟨s, t, e, j⟩ => ⟨s, t, e, _, j, Pr.one⟩
theorem P_add (h : Heap) (tb : Tb h) (a b c d' : Sl) (w n d : Nat) (i : IsP h a b w 1) (j : IsP h c d' n d) (l1 : ln 4294967296 w ≤ 1073741824) (l3 : ln 4294967296 n ≤ 1073741824) (l4 : ln 4294967296 d ≤ 1073741824) :
    Fn0 T F.word_Frac_Add [.agg #[.bool false, a.val, b.val], .agg #[.bool false, c.val, d'.val]] h fun v h' => ∃ s t : Sl, v = .agg #[.bool false, s.val, t.val] ∧ IsP h' s t (w * d + n) d := by
  obtain ⟨q, i, p⟩ := i.ex
  obtain ⟨r, j, p'⟩ := j.ex
  have := FAdd_ct h tb a b c d' q r i j (prsz p l1 (by rw [ln_one _ two_le_B]; decide)) (prsz p' l3 l4)
  rw [p.s, p'.s, (p.addw p').s] at this
  exact this.mono fun v h' _ ⟨s, t, e, j⟩ => ⟨s, t, e, _, j, p.addw p'⟩
theorem P_opp (h : Heap) (a b : Sl) (w : Nat) (i : IsP h a b w 1) (l1 : ln 4294967296 w ≤ 1073741824) : Fn0 T F.word_Frac_Opposite [.agg #[.bool false, a.val, b.val]] h fun v h' => h' = h ∧ v = .agg #[.bool (decide (w ≠ 0)), a.val, b.val] := by
  obtain ⟨q, i, p⟩ := i.ex
  have := Opposite_ct h a b q i (prsz p (Nat.le_trans l1 (by decide)) (by rw [ln_one _ two_le_B]; decide))
  rw [p.s, sg_neg, p.s, p.n] at this
  exact this
theorem P_less (h : Heap) (tb : Tb h) (c d' a b : Sl) (m e w : Nat) (j : IsP h c d' m e) (i : IsP h a b w 1) (l1 : ln 4294967296 w ≤ 1073741824) (l3 : ln 4294967296 m ≤ 1073741824) (l4 : ln 4294967296 e ≤ 1073741824) (hlt : w * e < m) :
    Fn0 T F.word_Frac_Add [.agg #[.bool false, c.val, d'.val], .agg #[.bool (decide (w ≠ 0)), a.val, b.val]] h fun v h' => ∃ s t : Sl, v = .agg #[.bool false, s.val, t.val] ∧ IsP h' s t (m - w * e) e := by
  obtain ⟨q, i, p⟩ := i.ex
  obtain ⟨r, j, p'⟩ := j.ex
  have x := p'.less p hlt
  have := FAdd_ct h tb c d' a b r (-q) j (IsFr.neg i) (prsz p' l3 l4) ⟨by rw [nu_neg, p.n]; exact l1, by rw [Rat.neg_den, p.d, ln_one _ two_le_B]; decide⟩
  rw [p'.s, sg_neg, p.s, p.n, x.s] at this
  exact this.mono fun v h' _ ⟨s, t, e, j⟩ => ⟨s, t, e, _, j, x⟩
theorem P_inv (h : Heap) (a b : Sl) (n d : Nat) (i : IsP h a b n d) (h0 : n ≠ 0) : Fn0 T F.word_Frac_Inverse [.agg #[.bool false, a.val, b.val]] h fun v h' => h' = h ∧ v = .agg #[.bool false, b.val, a.val] := by
  obtain ⟨q, i, p⟩ := i.ex
  have := Inverse_ct h a b q i (by rw [p.n]; exact h0)
  rw [p.s, (p.inv h0).s] at this
  exact this
theorem IsP.inv {h : Heap} {a b : Sl} {n d : Nat} (w : IsP h a b n d) (h0 : n ≠ 0) : IsP h b a d n := let ⟨q, i, p⟩ := w.ex; ⟨_, IsFr.inv i (by rw [p.n]; exact h0), p.inv h0⟩

/-- a row of whole numbers -/
structure Whs (h : Heap) (xs : List Value) (ws : List Nat) : Prop where
  len : xs.length = ws.length * 3
  el : ∀ i, i < ws.length → ∃ s t : Sl, xs[i * 3]? = some (.bool false) ∧ xs[i * 3 + 1]? = some s.val ∧ xs[i * 3 + 2]? = some t.val ∧ IsP h s t (ws.getD i 0) 1
theorem Whs.mono {h h' : Heap} {xs : List Value} {ws : List Nat} (w : Whs h xs ws) (hl : h.le h') : Whs h' xs ws :=
  ⟨w.len, fun i hi => let ⟨s, t, a, b, c, p⟩ := w.el i hi; ⟨s, t, a, b, c, p.mono hl⟩⟩
theorem Whs.nil (h : Heap) : Whs h [] [] := ⟨rfl, fun i hi => by simp at hi⟩
theorem Whs.snoc {h : Heap} {xs : List Value} {ws : List Nat} {s t : Sl} {w : Nat} (x : Whs h xs ws) (p : IsP h s t w 1) : Whs h (xs ++ [.bool false, s.val, t.val]) (ws ++ [w]) := by
  have hl := x.len
  refine ⟨by simp; omega, fun i hi => ?_⟩
  simp only [List.length_append, List.length_cons, List.length_nil] at hi
  by_cases h0 : i < ws.length
  · obtain ⟨u, v, a, b, c, y⟩ := x.el i h0
    refine ⟨u, v, ?_, ?_, ?_, ?_⟩
    · rw [List.getElem?_append_left (by omega)]; exact a
    · rw [List.getElem?_append_left (by omega)]; exact b
    · rw [List.getElem?_append_left (by omega)]; exact c
    · rw [List.getD_eq_getElem?_getD, List.getElem?_append_left h0, ← List.getD_eq_getElem?_getD]; exact y
  · obtain rfl : i = ws.length := by omega
    refine ⟨s, t, ?_, ?_, ?_, ?_⟩
    · rw [List.getElem?_append_right (by omega), show ws.length * 3 - xs.length = 0 by omega]; rfl
    · rw [List.getElem?_append_right (by omega), show ws.length * 3 + 1 - xs.length = 1 by omega]; rfl
    · rw [List.getElem?_append_right (by omega), show ws.length * 3 + 2 - xs.length = 2 by omega]; rfl
    · rw [List.getD_eq_getElem?_getD, List.getElem?_append_right (by omega), Nat.sub_self]; exact p
theorem back_ln {w : Nat} (hw : ln 4294967296 w ≤ 65) (hw0 : w ≠ 0) : ∀ ws : List Nat, (∀ x ∈ ws, ln 4294967296 x ≤ 64) → ln 4294967296 (back ws (w, 1)).1 ≤ 65 * ws.length + 65 ∧ ln 4294967296 (back ws (w, 1)).2 ≤ 65 * ws.length + 65 ∧ (back ws (w, 1)).1 ≠ 0 ∧ (back ws (w, 1)).2 ≠ 0
  | [], _ => ⟨by simpa [back] using hw, by have := ln_one 4294967296 two_le_B; simp [back]; omega, hw0, by simp [back]⟩
  | x :: ws, h => by
    obtain ⟨a1, a2, a3, a4⟩ := back_ln hw hw0 ws fun y hy => h y (List.mem_cons_of_mem _ hy)
    have hx := h x List.mem_cons_self
    have b1 := ln_mul two_le_B x (back ws (w, 1)).1
    have b2 := ln_add two_le_B (x * (back ws (w, 1)).1) (back ws (w, 1)).2
    simp only [back, List.length_cons]
    refine ⟨by omega, by omega, by omega, a3⟩
set_option maxRecDepth 20000 in
set_option maxHeartbeats 4000000 in
theorem simplest_ct (h : Heap) (tb : Tb h) (a b c d' : Sl) (n d m e : Nat) (i1 : IsP h a b n d) (i2 : IsP h c d' m e) (l1 : ln 4294967296 n ≤ 64) (l2 : ln 4294967296 d ≤ 64) (l3 : ln 4294967296 m ≤ 64) (l4 : ln 4294967296 e ≤ 64) (P : Pos2 n d m e) (hE : Enough 4098 n d m e) :
    Fn0 T F.number_simplest [.agg #[.bool false, a.val, b.val], .agg #[.bool false, c.val, d'.val]] h fun v h' => ∃ s t : Sl, v = .agg #[.bool false, s.val, t.val] ∧ IsP h' s t (smp 4098 n d m e).1 (smp 4098 n d m e).2 := by
  obtain ⟨R, hR⟩ : ∃ R, R = smp 4098 n d m e := ⟨_, rfl⟩
  rw [← hR]
  replace hR := Hq.mk hR
  refine fn0_of_codeI ok D.number_simplest rfl ?_
  repeat' first
   | (refine codeI.seqN (a := .block 0 _) ?_)
   | ((first | refine opsI.step ?_ | refine codeI.step ?_); conv => whnf)
   | (intro (_ : Nat); conv => whnf)
  rename_i b2 b3 b4
  refine SeqN.cut (fun ρ h' L => ∃ (v : Value) (xs : List Value) (ws : List Nat) (w : Nat) (G : Own) (x y : Nat × Obj), rd ρ 5 = v ∧ h.le h' ∧ L = G ++ (b4, .cells [.bool false, .slice none 0 0, .slice none 0 0].toArray Ty.word_Frac (0, 0)) :: [x, y] ∧ GrowS Ty.word_Frac 3 v (ws.length + 1) xs G ∧ Whs h' xs (ws ++ [w]) ∧ ws.length ≤ 4098 ∧ (∀ x ∈ ws, ln 4294967296 x ≤ 64) ∧ ln 4294967296 w ≤ 65 ∧ w ≠ 0 ∧ Hq (R = back ws (w, 1))) ?_ ?_
  · conv => whnf
    repeat ((first | refine opsI.step ?_ | refine codeI.step ?_); conv => whnf)
    refine LoopN.of (fun r ρ h' L => ∃ (k n d m e : Nat) (a b c d' : Sl) (v : Value) (xs : List Value) (ws : List Nat) (G : Own), r = k ∧ h.le h' ∧ rd ρ 5 = v ∧ GrowS Ty.word_Frac 3 v ws.length xs G ∧ Whs h' xs ws ∧ L = G ++ (b4, .cells [.bool false, .slice none 0 0, .slice none 0 0].toArray Ty.word_Frac (0, 0)) :: (b3, .cells [.bool false, c.val, d'.val].toArray Ty.word_Frac (0, 0)) :: [(b2, .cells [.bool false, a.val, b.val].toArray Ty.word_Frac (0, 0))] ∧
        IsP h' a b n d ∧ IsP h' c d' m e ∧ Pos2 n d m e ∧ Enough k n d m e ∧ ln 4294967296 n ≤ 64 ∧ ln 4294967296 d ≤ 64 ∧ ln 4294967296 m ≤ 64 ∧ ln 4294967296 e ≤ 64 ∧ ws.length + k = 4098 ∧ (∀ x ∈ ws, ln 4294967296 x ≤ 64) ∧ Hq (R = back ws (smp k n d m e))) 4098
      ⟨4098, n, d, m, e, a, b, c, d', _, [], [], [], rfl, Heap.le_refl _, rfl, GrowS.nil _ _ _, Whs.nil _, rfl, i1, i2, P, hE, l1, l2, l3, l4, rfl, by simp, ⟨hR.out⟩⟩ ?_
    clear i1 i2 P hE hR l1 l2 l3 l4
    conv => whnf
    repeat intro _
    rename_i r h4 L4 hI
    obtain ⟨k, n, d, m, e, a, b, c, d', v, xs, ws, G, rfl, hle, e0, g, hw, rfl, i1, i2, P, hE, l1, l2, l3, l4, hk, hws, hR⟩ := hI
    conv at e0 => lhs; whnf
    subst e0
    obtain ⟨K, rfl⟩ : ∃ K, r = K + 1 := by
      rcases Nat.eq_zero_or_pos r with h0 | h0
      · subst h0; exact absurd hE (Enough.pos P)
      · exact ⟨r - 1, by omega⟩
    replace tb := tb.mono hle
    have d0 := P.d0
    have o1 := ln_one 4294967296 two_le_B
    have s1 := P.step
    have s2 := hE.step P
    have s3 : n % d = 0 → smp (K + 1) n d m e = (n / d, 1) := fun x => by rw [smp, if_pos x]
    have s4 : n % d ≠ 0 → (n / d + 1) * e ≤ m → smp (K + 1) n d m e = (n / d + 1, 1) := fun x y => by rw [smp, if_neg x, if_pos y]
    have s5 := smp_next (k := K) (n := n) (d := d) (m := m) (e := e)
    have q1 : ln 4294967296 (n / d) ≤ 64 := Nat.le_trans (ln_mono two_le_B (Nat.div_le_self _ _)) l1
    have q2 : ln 4294967296 (n % d) ≤ 64 := Nat.le_trans (ln_mono two_le_B (Nat.mod_le _ _)) l1
    obtain ⟨hnd, hrd⟩ := split_nd (n := n) d0
    obtain ⟨w, hw'⟩ : ∃ w, w = n / d := ⟨_, rfl⟩
    obtain ⟨r, hr'⟩ : ∃ r, r = n % d := ⟨_, rfl⟩
    simp only [← hw', ← hr'] at s1 s2 s3 s4 s5 q1 q2 hnd hrd
    have q3 := ln_add two_le_B w 1
    obtain ⟨Y1, hY1⟩ : ∃ x, x = w * d := ⟨_, rfl⟩
    simp only [← hY1] at hnd
    obtain ⟨N1, hN1⟩ : ∃ x, x = w + 1 := ⟨_, rfl⟩
    simp only [← hN1] at s1 s2 s4 s5 q3
    obtain ⟨X, hX⟩ : ∃ x, x = N1 * e := ⟨_, rfl⟩
    simp only [← hX] at s1 s2 s4 s5
    obtain ⟨Y, hY⟩ : ∃ x, x = w * e := ⟨_, rfl⟩
    simp only [← hY] at s1 s2 s5
    have q6 : ln 4294967296 (m - Y) ≤ 64 := Nat.le_trans (ln_mono two_le_B (Nat.sub_le _ _)) l3
    obtain ⟨M, hM⟩ : ∃ x, x = m - Y := ⟨_, rfl⟩
    simp only [← hM] at s1 s2 s5 q6
    have hr1 : r = n - Y1 := by omega
    have cx := cmpI_le (x := X) (y := m)
    have cz := cmpI_zero (x := Y1) (y := n)
    have hw0 : Y1 ≠ 0 → w ≠ 0 := fun x y => x (by rw [hY1, y, Nat.zero_mul])
    have hn0 := P.n0
    have g0 : cmpI Y1 n = 0 → w ≠ 0 ∧ R = back ws (w, 1) := fun x => by
      have := cz.1 x
      exact ⟨hw0 (by omega), by rw [hR.out, s3 (by omega)]⟩
    clear hw0 hn0
    have g2 : cmpI Y1 n ≠ 0 → cmpI X m ≤ 0 → R = back ws (N1, 1) := fun x y => by
      rw [hR.out, s4 (fun z => x (cz.2 (by omega))) (cx.1 y)]
    have g3 : cmpI Y1 n ≠ 0 → 0 < cmpI X m → Y < m ∧ M ≠ 0 ∧ r ≠ 0 ∧ Pos2 e M d r ∧ Enough K e M d r ∧ R = back (ws ++ [w]) (smp K e M d r) := fun x y => by
      have u1 : r ≠ 0 := fun z => x (cz.2 (by omega))
      have u2 : ¬ X ≤ m := fun i => by have := cx.2 i; omega
      obtain ⟨v1, v2, v3⟩ := s1 u1 u2
      exact ⟨v1, by omega, u1, v3, s2 u1 u2, by rw [hR.out, s5 u1 u2, back_snoc]⟩
    clear cx cz s1 s2 s3 s4 s5
    replace hR := hR.out
    obtain ⟨nb, hnb⟩ : ∃ nb, nb = decide (w ≠ 0) := ⟨_, rfl⟩
    have c8 := fun h a b i => P_opp h a b w i (by omega)
    have c9 := fun h tb c d' a b i j hlt => P_less h tb c d' a b m e w i j (by omega) (by omega) (by omega) hlt
    have c7 := fun h tb c d' a b i j hlt => P_less h tb c d' a b n d w i j (by omega) (by omega) (by omega) hlt
    simp only [← hnb, ← hY, ← hM] at c8 c9
    simp only [← hnb, ← hY1, ← hr1] at c7
    clear hnb
    clear hR
    replace hw' := Hq.mk hw'
    replace hr' := Hq.mk hr'
    conv => whnf
    repeat ((first | refine opsI.step ?_ | refine codeI.step ?_); conv => whnf)
    repeat' first
     | (show LdN _ _ _ _ _; first
       | (refine LdN.tail2 (G := G) rfl ?_; conv => whnf)
       | (refine LdN.tail2 (G := _ :: G) rfl ?_; conv => whnf)
       | (refine LdN.tail1 (G := _ :: _ :: G) rfl ?_; conv => whnf)
       | (refine LdN.own 0 rfl rfl ?_; conv => whnf)
       | (refine LdN.own 1 rfl rfl ?_; conv => whnf))
     | (show CallN _ _ _ _ _ _; first
       | (refine CallN.fn rfl (P_grid _ (by assumption) _ _ n d (by assumption) (by omega) (by omega)) (fun v h' hl hr => ?_); rw [← hw'.out] at hr; obtain ⟨s6, t6, rfl, hs6⟩ := hr; conv => whnf)
       | (refine CallN.fn rfl (P_cmp _ _ _ _ _ w 1 n d (by (iterate 30 (try first | assumption | refine IsP.mono ?_ (by assumption))); first | done | assumption) (by (iterate 30 (try first | assumption | refine IsP.mono ?_ (by assumption))); first | done | assumption) (by omega) (by omega) (by omega) (by omega)) (fun v h' hl hr => ?_); rw [Nat.mul_one, ← hY1] at hr; obtain rfl := hr; conv => whnf)
       | (refine CallN.fn rfl (P_one _) (fun v h' hl hr => ?_); obtain ⟨s1, t1, rfl, hs1⟩ := hr; conv => whnf)
       | (refine CallN.fn rfl (P_add _ (by (iterate 30 (try first | assumption | refine Tb.mono ?_ (by assumption))); first | done | assumption) _ _ _ _ w 1 1 (by (iterate 30 (try first | assumption | refine IsP.mono ?_ (by assumption))); first | done | assumption) (by assumption) (by omega) (by omega) (by omega)) (fun v h' hl hr => ?_); rw [Nat.mul_one, ← hN1] at hr; obtain ⟨s7, t7, rfl, hs7⟩ := hr; conv => whnf)
       | (refine CallN.fn rfl (P_cmp _ _ _ _ _ N1 1 m e (by assumption) (by (iterate 30 (try first | assumption | refine IsP.mono ?_ (by assumption))); first | done | assumption) (by omega) (by omega) (by omega) (by omega)) (fun v h' hl hr => ?_); rw [Nat.mul_one, ← hX] at hr; obtain rfl := hr; conv => whnf))
     | (show App _ _ _ _ _ _ _ _ _; first
       | (refine App.growA (A := [_, _]) (F := G) (size := 3) (bytes := 56) (z := [.bool false, .slice none 0 0, .slice none 0 0]) rfl rfl g ⟨_, 0, none⟩ 1 1 [.bool false, _, _] rfl (Has.three _) rfl (by decide) (by omega) (by omega) (by decide) (fun v' G9 g9 hA => ?_); conv => whnf)
       | (refine App.growA (A := [_, _, _]) (F := G) (size := 3) (bytes := 56) (z := [.bool false, .slice none 0 0, .slice none 0 0]) rfl rfl g ⟨_, 0, none⟩ 1 1 [.bool false, _, _] rfl (Has.three _) rfl (by decide) (by omega) (by omega) (by decide) (fun v' G9 g9 hA => ?_); conv => whnf))
     | ((first | refine opsI.step ?_ | refine codeI.step ?_); conv => whnf)
     | (refine ⟨fun _ => HasLe.of_le (by assumption), ?_⟩; conv => whnf)
     | (refine ⟨fun _ => HasLe.cons _, ?_⟩; conv => whnf)
     | (refine ⟨fun hst => (by cases (show true = false from hst)), ?_⟩; conv => whnf)
     | (intro (_ : Nat); conv => whnf)
     | (show cnd _ _ _; first
       | (refine cnd_le (fun _ => ?_) (fun _ => ?_) <;> first | (exfalso; omega) | (conv => whnf))
       | (refine cnd_eq (fun _ => ?_) (fun _ => ?_) <;> first | (exfalso; omega) | (conv => whnf)))
     | (show Sto _ _ _ _; first
       | (refine Sto.lit 0 rfl rfl rfl ?_; conv => whnf))
     | (show DrawN _ _ _ _ _ _; first
       | (refine DrawN.run (by decide +kernel) ?_; conv => whnf))
     | (show Both _ _; first
       | (refine Both.mk ?_ ?_ <;> (conv => whnf)))
    all_goals first
      | exact ⟨rfl, _, xs ++ [.bool false, s6.val, t6.val], ws, w, G9, _, _, rfl, (by (iterate 30 (try first | assumption | refine Heap.le_trans ?_ (by assumption))); first | done | assumption), rfl, g9, Whs.snoc (by (iterate 30 (try first | assumption | refine Whs.mono ?_ (by assumption))); first | done | assumption) (by (iterate 30 (try first | assumption | refine IsP.mono ?_ (by assumption))); first | done | assumption), by omega, hws, by omega, (g0 (by assumption)).1, ⟨(g0 (by assumption)).2⟩⟩
      | exact ⟨rfl, _, xs ++ [.bool false, s7.val, t7.val], ws, N1, G9, _, _, rfl, (by (iterate 30 (try first | assumption | refine Heap.le_trans ?_ (by assumption))); first | done | assumption), rfl, g9, Whs.snoc (by (iterate 30 (try first | assumption | refine Whs.mono ?_ (by assumption))); first | done | assumption) (by (iterate 30 (try first | assumption | refine IsP.mono ?_ (by assumption))); first | done | assumption), by omega, hws, by omega, by omega, ⟨g2 (by assumption) (by omega)⟩⟩
      | skip
    all_goals
      have g3' := g3 (by assumption) (by omega)
      obtain ⟨f1, f2, f3, f4, f5, f6⟩ := g3'
      replace f6 := Hq.mk f6
      clear g0 g2 g3
      have hb6 := hA _ (.tail _ (.tail _ (.head _)))
      refine LdN.memF hb6 rfl ?_
      conv => whnf
    all_goals (repeat' first
       | (show LdN _ _ _ _ _; first
         | (refine LdN.tail1 (G := _ :: G9) rfl ?_; conv => whnf)
         | (refine LdN.tail2 (G := _ :: G9) rfl ?_; conv => whnf)
         | (refine LdN.own 0 rfl rfl ?_; conv => whnf))
       | (show Sto _ _ _ _; first
         | (refine Sto.tail4 (G := _ :: G9) rfl ?_; conv => whnf)
         | (refine Sto.tail1 (G := _ :: G9) rfl ?_; conv => whnf)
         | (refine Sto.lit 0 rfl rfl rfl ?_; conv => whnf))
       | (show CallN _ _ _ _ _ _; first
         | (refine CallN.quiet rfl (c8 _ _ _ (by (iterate 30 (try first | assumption | refine IsP.mono ?_ (by assumption))); first | done | assumption)) ?_; conv => whnf)
         | (refine CallN.fn rfl (c9 _ (by (iterate 30 (try first | assumption | refine Tb.mono ?_ (by assumption))); first | done | assumption) _ _ _ _ (by (iterate 30 (try first | assumption | refine IsP.mono ?_ (by assumption))); first | done | assumption) (by (iterate 30 (try first | assumption | refine IsP.mono ?_ (by assumption))); first | done | assumption) (by assumption)) (fun v h' hl hr => ?_); obtain ⟨s8, t8, rfl, hs8⟩ := hr; conv => whnf)
         | (refine CallN.fn rfl (c7 _ (by (iterate 30 (try first | assumption | refine Tb.mono ?_ (by assumption))); first | done | assumption) _ _ _ _ (by (iterate 30 (try first | assumption | refine IsP.mono ?_ (by assumption))); first | done | assumption) (by (iterate 30 (try first | assumption | refine IsP.mono ?_ (by assumption))); first | done | assumption) (by omega)) (fun v h' hl hr => ?_); obtain ⟨s9, t9, rfl, hs9⟩ := hr; conv => whnf)
         | (refine CallN.quiet rfl (P_inv _ _ _ M e (by (iterate 30 (try first | assumption | refine IsP.mono ?_ (by assumption))); first | done | assumption) (by assumption)) ?_; conv => whnf)
         | (refine CallN.quiet rfl (P_inv _ _ _ r d (by assumption) (by assumption)) ?_; conv => whnf))
       | ((first | refine opsI.step ?_ | refine codeI.step ?_); conv => whnf)
       | (refine ⟨fun _ => HasLe.of_le (Heap.le_refl _), ?_⟩; conv => whnf)
       | (refine ⟨fun _ => HasLe.of_le (by assumption), ?_⟩; conv => whnf)
       | (refine ⟨fun hst => (by cases (show true = false from hst)), ?_⟩; conv => whnf)
       | (intro (_ : Nat); conv => whnf)
       | (show DrawN _ _ _ _ _ _; first
         | (refine DrawN.run (by decide +kernel) ?_; conv => whnf)))
    all_goals
      have k8 := hs8.inv f2
      have k9 := hs9.inv f3
      exact ⟨rfl, K, by omega, K, e, M, d, r, t8, s8, t9, s9, v', xs ++ [.bool false, s6.val, t6.val], ws ++ [w], _ :: G9, rfl, (by (iterate 30 (try first | assumption | refine Heap.le_trans ?_ (by assumption))); first | done | assumption), rfl, by rw [List.length_append]; exact g9.cons _, Whs.snoc (by (iterate 30 (try first | assumption | refine Whs.mono ?_ (by assumption))); first | done | assumption) (by (iterate 30 (try first | assumption | refine IsP.mono ?_ (by assumption))); first | done | assumption), rfl, (by (iterate 30 (try first | assumption | refine IsP.mono ?_ (by assumption))); first | done | assumption), (by assumption), f4, f5, l4, q6, l2, q2, by rw [List.length_append]; show ws.length + 1 + K = 4098; omega, fun x hx => (List.mem_append.1 hx).elim (hws x) (fun y => by rw [List.mem_singleton.1 y]; exact q1), f6⟩
  · clear i1 i2 P hE hR l1 l2 l3 l4
    conv => whnf
    repeat intro _
    rename_i h5 L5 hJ
    obtain ⟨v, xs, ws, w, G, x, y, e0, hle, rfl, g, hw, hlen, hws, lw, hw0, hR⟩ := hJ
    conv at e0 => lhs; whnf
    subst e0
    obtain ⟨gl, ⟨rfl, h00⟩ | ⟨i, b, cap, zs, rfl, hi, hnc, hlen2⟩⟩ := g
    · omega
    have hxl := hw.len
    rw [List.length_append, List.length_singleton] at hxl
    obtain ⟨s, t, z0, z1, z2, hst⟩ := hw.el ws.length (by simp)
    rw [List.getD_eq_getElem?_getD, List.getElem?_append_right (Nat.le_refl _), Nat.sub_self] at hst
    replace hst : IsP h5 s t w 1 := hst
    have get : ∀ {j : Nat} {u : Value}, xs[j]? = some u → (xs ++ zs)[j]? = some u := fun {j u} hu => by
      rw [List.getElem?_append_left (List.getElem?_eq_some_iff.1 hu).1]; exact hu
    have y0 := get z0
    have y1 := get z1
    have y2 := get z2
    conv => whnf
    repeat ((first | refine opsI.step ?_ | refine codeI.step ?_); conv => whnf)
    repeat' first
     | (show Idx _ _ _ _ _; first
       | (refine Idx.of ws.length rfl (by omega) (by omega) ?_; conv => whnf))
     | (show LdN _ _ _ _ _; first
       | (refine LdN.three (.inr (List.mem_append_left _ (List.mem_of_getElem? hi))) (by rw [Nat.zero_add]; exact y0) (by rw [Nat.zero_add]; exact y1) (by rw [Nat.zero_add]; exact y2) ?_; conv => whnf))
     | ((first | refine opsI.step ?_ | refine codeI.step ?_); conv => whnf)
     | (intro (_ : Nat); conv => whnf)
     | (show WrapN _ _ _; first
       | (refine WrapN.i64 (by omega) (by omega) ?_; conv => whnf))
     | (show Sto _ _ _ _; first
       | (refine Sto.lit 0 rfl rfl rfl ?_; conv => whnf))
    rename_i b9
    refine LoopN.freeze i hi fun h6 G6 hle6 hb6 => ?_
    have hbk : ∀ k, ln 4294967296 (back (ws.drop k) (w, 1)).1 ≤ 400000 ∧ ln 4294967296 (back (ws.drop k) (w, 1)).2 ≤ 400000 ∧ (back (ws.drop k) (w, 1)).1 ≠ 0 ∧ (back (ws.drop k) (w, 1)).2 ≠ 0 := fun k => by
      obtain ⟨a1, a2, a3, a4⟩ := back_ln lw hw0 (ws.drop k) fun y hy => hws y (List.mem_of_mem_drop hy)
      rw [List.length_drop] at a1 a2
      exact ⟨by omega, by omega, a3, a4⟩
    have hst0 : back (ws.drop ws.length) (w, 1) = (w, 1) := by rw [List.drop_length]; rfl
    refine LoopN.of (fun k ρ h' L => ∃ (s t : Sl), rd ρ 10 = .int .i64 ((k : Int) - 1) ∧ k ≤ ws.length ∧ h6.le h' ∧ IsP h' s t (back (ws.drop k) (w, 1)).1 (back (ws.drop k) (w, 1)).2 ∧ L = (b9, .cells [.bool false, s.val, t.val].toArray Ty.word_Frac (0, 0)) :: (G6 ++ (b4, .cells [.bool false, .slice none 0 0, .slice none 0 0].toArray Ty.word_Frac (0, 0)) :: [x, y])) ws.length
      ⟨s, t, vi (by omega), Nat.le_refl _, Heap.le_refl _, by rw [hst0]; exact (by (iterate 30 (try first | assumption | refine IsP.mono ?_ (by assumption))); first | done | assumption), rfl⟩ ?_
    conv => whnf
    repeat intro _
    rename_i k h7 L7 hI
    obtain ⟨s7, t7, e10, hk, hle7, hp, rfl⟩ := hI
    conv at e10 => lhs; whnf
    subst e10
    by_cases hk0 : k = 0
    · subst hk0
      rw [List.drop_zero, ← hR.out] at hp
      conv => whnf
      repeat ((first | refine opsI.step ?_ | refine codeI.step ?_); conv => whnf)
      repeat' first
       | (show Sto _ _ _ _; first
         | (refine Sto.tail3 (G := _ :: G6) rfl ?_; conv => whnf))
       | (show LdN _ _ _ _ _; first
         | (refine LdN.tail (G := _ :: G6) rfl ?_; conv => whnf)
         | (refine LdN.own 0 rfl rfl ?_; conv => whnf))
       | ((first | refine opsI.step ?_ | refine codeI.step ?_); conv => whnf)
       | (show cnd _ _ _; first
         | (refine cnd_le (fun _ => ?_) (fun _ => ?_) <;> first | (exfalso; omega) | (conv => whnf)))
      all_goals exact RetN.all ⟨_, _, rfl, (by assumption)⟩
    · have hkl : k - 1 < ws.length := by omega
      obtain ⟨u, v, q0, q1, q2, huv⟩ := hw.el (k - 1) (by simp; omega)
      rw [List.getD_eq_getElem?_getD, List.getElem?_append_left hkl, ← List.getD_eq_getElem?_getD] at huv
      have hd : back (ws.drop (k - 1)) (w, 1) = (ws.getD (k - 1) 0 * (back (ws.drop k) (w, 1)).1 + (back (ws.drop k) (w, 1)).2, (back (ws.drop k) (w, 1)).1) := by
        rw [List.drop_eq_getElem_cons hkl, show k - 1 + 1 = k by omega]
        simp [back, List.getD_eq_getElem?_getD, hkl]
      have lz : ln 4294967296 (ws.getD (k - 1) 0) ≤ 64 := hws _ (by simp [List.getD_eq_getElem?_getD, hkl])
      obtain ⟨a1, a2, a3, a4⟩ := hbk k
      obtain ⟨Z, hZ⟩ : ∃ z, z = ws.getD (k - 1) 0 := ⟨_, rfl⟩
      obtain ⟨A, hA⟩ : ∃ z, z = (back (ws.drop k) (w, 1)).1 := ⟨_, rfl⟩
      obtain ⟨B, hB⟩ : ∃ z, z = (back (ws.drop k) (w, 1)).2 := ⟨_, rfl⟩
      rw [← hZ] at lz huv hd
      rw [← hA] at a1 a3 hp hd
      rw [← hB] at a2 a4 hp hd
      have hq := hp.inv a3
      have y0 := get q0
      have y1 := get q1
      have y2 := get q2
      clear hbk hst0 get
      conv => whnf
      repeat ((first | refine opsI.step ?_ | refine codeI.step ?_); conv => whnf)
      repeat' first
       | (show Idx _ _ _ _ _; first
         | (refine Idx.of (k - 1) rfl (by omega) (by omega) ?_; conv => whnf))
       | (show LdN _ _ _ _ _; first
         | (refine LdN.three (.inl (hle7 _ _ hb6)) (by rw [Nat.zero_add]; exact y0) (by rw [Nat.zero_add]; exact y1) (by rw [Nat.zero_add]; exact y2) ?_; conv => whnf)
         | (refine LdN.own 0 rfl rfl ?_; conv => whnf))
       | (show CallN _ _ _ _ _ _; first
         | (refine CallN.quiet rfl (P_inv _ _ _ A B (by assumption) (by assumption)) ?_; conv => whnf)
         | (refine CallN.fn rfl (P_add _ (by (iterate 30 (try first | assumption | refine Tb.mono ?_ (by assumption))); first | done | assumption) _ _ _ _ Z B A (by (iterate 30 (try first | assumption | refine IsP.mono ?_ (by assumption))); first | done | assumption) (by assumption) (by omega) (by omega) (by omega)) (fun v h' hl hr => ?_); obtain ⟨s8, t8, rfl, hs8⟩ := hr; conv => whnf))
       | ((first | refine opsI.step ?_ | refine codeI.step ?_); conv => whnf)
       | (refine ⟨fun _ => HasLe.of_le (Heap.le_refl _), ?_⟩; conv => whnf)
       | (refine ⟨fun _ => HasLe.of_le (by assumption), ?_⟩; conv => whnf)
       | (refine ⟨fun hst => (by cases (show true = false from hst)), ?_⟩; conv => whnf)
       | (show WrapN _ _ _; first
         | (refine WrapN.i64 (by omega) (by omega) ?_; conv => whnf))
       | (show cnd _ _ _; first
         | (refine cnd_le (fun _ => ?_) (fun _ => ?_) <;> first | (exfalso; omega) | (conv => whnf)))
       | (show Sto _ _ _ _; first
         | (refine Sto.lit 0 rfl rfl rfl ?_; conv => whnf))
       | (show DrawN _ _ _ _ _ _; first
         | (refine DrawN.run (by decide +kernel) ?_; conv => whnf))
      all_goals exact ⟨rfl, k - 1, by omega, s8, t8, vi (by omega), by omega, (by (iterate 30 (try first | assumption | refine Heap.le_trans ?_ (by assumption))); first | done | assumption), by rw [hd]; exact (by assumption), rfl⟩
end Go.Proofs.YteblflmnhegmjaaDoor
