/- Swap: plain. -/
import Derived.Test.YtchcjbbnkcodjaaGreatDoorE33
set_option linter.unusedVariables false
set_option linter.unusedSimpArgs false
namespace Go.Proofs.YtchcjbbnkcodjaaGreatDoor
open Go Go.Vc Go.Dig
def sw (a b n : List Nat) : List Nat := if n = a then b else if n = b then a else n
theorem sw_sw (a b n : List Nat) : sw a b (sw a b n) = n := by
  unfold sw
  by_cases h1 : n = a
  · subst h1
    rw [if_pos rfl]
    by_cases h2 : b = n
    · rw [if_pos h2]; exact h2
    · rw [if_neg h2, if_pos rfl]
  · rw [if_neg h1]
    by_cases h2 : n = b
    · subst h2
      rw [if_pos rfl, if_pos rfl]
    · rw [if_neg h2, if_neg h1, if_neg h2]
def byP (a b : List Nat) : Tr → Option Tr
  | .mk op arg neg l m name ks => if op = 2 then some (.mk op arg neg l m (sw a b name) ks) else none
def getB : List (List Nat × Tr) → List Nat → Tr → Tr
  | [], _, t => t
  | (n, u) :: bs, name, t => if n = name then u else getB bs name t
def byR (bs : List (List Nat × Tr)) : Tr → Option Tr
  | .mk op arg neg l m name ks => if op = 2 then some (getB bs name (.mk op arg neg l m name ks)) else none
mutual
def swK (a b : List Nat) : Kt → Kt
  | .mk op arg q name ks => if op = 2 then .mk op arg q (sw a b name) ks else .mk op arg q name (swKs a b ks)
def swKs (a b : List Nat) : List Kt → List Kt
  | [] => []
  | t :: ts => swK a b t :: swKs a b ts
end
mutual
theorem swK_swK (a b : List Nat) : ∀ k : Kt, swK a b (swK a b k) = k
  | .mk op arg q name ks => by
    by_cases h : op = 2
    · rw [swK, if_pos h, swK, if_pos h, sw_sw]
    · rw [swK, if_neg h, swK, if_neg h, swKs_swKs]
theorem swKs_swKs (a b : List Nat) : ∀ ks : List Kt, swKs a b (swKs a b ks) = ks
  | [] => by rw [swKs, swKs]
  | k :: ks => by rw [swKs, swKs, swK_swK, swKs_swKs]
end
mutual
theorem key_byP (a b : List Nat) : ∀ t : Tr, key (rplT (byP a b) t) = swK a b (key t)
  | .mk op arg neg l m name ks => by
    by_cases h : op = 2
    · rw [rplT_some (show byP a b (.mk op arg neg l m name ks) = _ from if_pos h), key, key, swK, if_pos h]
    · rw [rplT_none (show byP a b (.mk op arg neg l m name ks) = none from if_neg h), key, key, swK, if_neg h, keys_byP]
theorem keys_byP (a b : List Nat) : ∀ ts : List Tr, keys (rplTs (byP a b) ts) = swKs a b (keys ts)
  | [] => by rw [rplTs, keys, swKs]
  | t :: ts => by rw [rplTs, keys, keys, swKs, key_byP, keys_byP]
end
theorem sw_nm {a b n : List Nat} (ha : IsNm a) (hb : IsNm b) (hn : IsNm n) : IsNm (sw a b n) := by
  unfold sw
  split
  · exact hb
  · split
    · exact ha
    · exact hn
mutual
theorem okT_byP {a b : List Nat} (ha : IsNm a) (hb : IsNm b) : ∀ {d : Nat} {t : Tr}, okT d t → okT d (rplT (byP a b) t)
  | d, .mk op arg neg l m name ks, h => by
    rw [okT] at h
    obtain ⟨hd, hn, hk⟩ := h
    by_cases o : op = 2
    · rw [rplT_some (show byP a b (.mk op arg neg l m name ks) = _ from if_pos o), okT]
      refine ⟨hd, ⟨hn.1, hn.2.1, hn.2.2.1, ?_, hn.2.2.2.2⟩, hk⟩
      have := hn.2.2.2.1
      rw [if_pos o] at this ⊢
      exact sw_nm ha hb this
    · rw [rplT_none (show byP a b (.mk op arg neg l m name ks) = none from if_neg o), okT]
      exact ⟨hd, ⟨by rw [rplTs_len]; exact hn.1, hn.2⟩, okTs_byP ha hb hk⟩
theorem okTs_byP {a b : List Nat} (ha : IsNm a) (hb : IsNm b) : ∀ {d : Nat} {ts : List Tr}, okTs d ts → okTs d (rplTs (byP a b) ts)
  | _, [], _ => by rw [rplTs, okTs]; trivial
  | d, t :: ts, h => by
    rw [okTs] at h
    rw [rplTs, okTs]
    exact ⟨okT_byP ha hb h.1, okTs_byP ha hb h.2⟩
end
mutual
theorem szT_byP (a b : List Nat) : ∀ {t : Tr}, szT (rplT (byP a b) t) = szT t
  | .mk op arg neg l m name ks => by
    by_cases o : op = 2
    · rw [rplT_some (show byP a b (.mk op arg neg l m name ks) = _ from if_pos o), szT, szT]
    · rw [rplT_none (show byP a b (.mk op arg neg l m name ks) = none from if_neg o), szT, szT, szTs_byP]
theorem szTs_byP (a b : List Nat) : ∀ {ts : List Tr}, szTs (rplTs (byP a b) ts) = szTs ts
  | [] => by rw [rplTs]
  | t :: ts => by rw [rplTs, szTs, szTs, szT_byP, szTs_byP]
end
theorem val_byP {a b : List Nat} (ha : IsNm a) (hb : IsNm b) {t : Tr} (h : ValT t) : ValT (rplT (byP a b) t) := ⟨okT_byP ha hb h.1, by rw [szT_byP]; exact h.2⟩
theorem var_ok {arg : Int} {neg : Bool} {l m name : List Nat} {ks : List Tr} (h : nodeB 2 arg neg l m name ks.length) : arg = 0 ∧ evl 4294967296 l = 0 ∧ IsNm name ∧ ks = [] := by
  obtain ⟨h1, h2, h3, h4, h5⟩ := h
  rw [if_pos rfl] at h4
  rw [if_neg (by decide)] at h5
  refine ⟨Int.le_antisymm h3 h2, h5, h4, List.length_eq_zero_iff.1 (by have : kidsN 2 = 0 := rfl; omega)⟩
def swB (a b : List Nat) : List (List Nat × Tr) := [(a, varT b), (b, varT a)]
theorem key_var (n : List Nat) : key (varT n) = .mk 2 0 0 n [] := by
  unfold varT
  rw [key, keys, ratOf_nil (evl_nil _)]
theorem getB_sw {a b name : List Nat} {t : Tr} (ha : a ≠ b ∨ a = b) : getB (swB a b) name t = if a = name then varT b else if b = name then varT a else t := by
  unfold swB
  rw [getB, getB, getB]
mutual
theorem key_byR (a b : List Nat) : ∀ {d : Nat} {t : Tr}, okT d t → key (rplT (byR (swB a b)) t) = swK a b (key t)
  | d, .mk op arg neg l m name ks, h => by
    rw [okT] at h
    obtain ⟨hd, hn, hk⟩ := h
    by_cases o : op = 2
    · obtain ⟨e1, h2, -, e4⟩ := var_ok (o ▸ hn : nodeB 2 arg neg l m name ks.length)
      subst e1 e4
      rw [rplT_some (show byR (swB a b) (.mk op 0 neg l m name []) = _ from if_pos o), key, keys, swK, if_pos o, ratOf_nil h2, getB_sw (Classical.em _).symm]
      unfold sw
      subst o
      by_cases h1 : name = a
      · rw [if_pos h1.symm, if_pos h1, key_var]
      · rw [if_neg fun x => h1 x.symm, if_neg h1]
        by_cases h3 : name = b
        · rw [if_pos h3.symm, if_pos h3, key_var]
        · rw [if_neg fun x => h3 x.symm, if_neg h3, key, keys, ratOf_nil h2]
    · rw [rplT_none (show byR (swB a b) (.mk op arg neg l m name ks) = none from if_neg o), key, key, swK, if_neg o, keys_byR a b hk]
theorem keys_byR (a b : List Nat) : ∀ {d : Nat} {ts : List Tr}, okTs d ts → keys (rplTs (byR (swB a b)) ts) = swKs a b (keys ts)
  | _, [], _ => by rw [rplTs, keys, swKs]
  | d, t :: ts, h => by
    rw [okTs] at h
    rw [rplTs, keys, keys, swKs, key_byR a b h.1, keys_byR a b h.2]
end
theorem var_node {n : List Nat} (hn : IsNm n) {d : Nat} (hd : d ≤ 30) : okT d (varT n) := by
  unfold varT
  rw [okT]
  exact ⟨hd, ⟨rfl, by decide, by decide, by rw [if_pos rfl]; exact hn, by rw [if_neg (by decide)]; exact evl_nil _⟩, by rw [okTs]; trivial⟩
mutual
theorem okT_byR {a b : List Nat} (ha : IsNm a) (hb : IsNm b) : ∀ {d : Nat} {t : Tr}, okT d t → okT d (rplT (byR (swB a b)) t)
  | d, .mk op arg neg l m name ks, h => by
    have h0 := h
    rw [okT] at h
    obtain ⟨hd, hn, hk⟩ := h
    by_cases o : op = 2
    · rw [rplT_some (show byR (swB a b) (.mk op arg neg l m name ks) = _ from if_pos o), getB_sw (Classical.em _).symm]
      split
      · exact var_node hb hd
      · split
        · exact var_node ha hd
        · exact h0
    · rw [rplT_none (show byR (swB a b) (.mk op arg neg l m name ks) = none from if_neg o), okT]
      exact ⟨hd, ⟨by rw [rplTs_len]; exact hn.1, hn.2⟩, okTs_byR ha hb hk⟩
theorem okTs_byR {a b : List Nat} (ha : IsNm a) (hb : IsNm b) : ∀ {d : Nat} {ts : List Tr}, okTs d ts → okTs d (rplTs (byR (swB a b)) ts)
  | _, [], _ => by rw [rplTs, okTs]; trivial
  | d, t :: ts, h => by
    rw [okTs] at h
    rw [rplTs, okTs]
    exact ⟨okT_byR ha hb h.1, okTs_byR ha hb h.2⟩
end
def swapX (a b : List Nat) (t : Tr) : Tr × Nat := if ¬ ValT t then (zeroT, 40) else if ¬ (IsNm a ∧ IsNm b) then (zeroT, 41) else (cloneT (rplT (byP a b) t), 0)
def swapY (a b : List Nat) (t : Tr) : Tr × Nat := if ¬ ValT t then (zeroT, 40) else if ¬ (IsNm a ∧ IsNm b) then (zeroT, 41) else (rplT (byR (swB a b)) t, 0)
def Agree (x y : Tr × Nat) : Prop := x.2 = y.2 ∧ (y.2 ≠ 0 → x.1 = zeroT) ∧ (y.2 = 0 → okT 1 x.1 ∧ okT 1 y.1 ∧ sameB x.1 y.1 = true)
theorem swapX_ok {a b : List Nat} {t : Tr} (h1 : ValT t) (h2 : IsNm a ∧ IsNm b) : swapX a b t = (cloneT (rplT (byP a b) t), 0) := by
  unfold swapX
  have g1 : ¬ ¬ ValT t := fun x => x h1
  have g2 : ¬ ¬ (IsNm a ∧ IsNm b) := fun x => x h2
  rw [if_neg g1, if_neg g2]
theorem swapY_ok {a b : List Nat} {t : Tr} (h1 : ValT t) (h2 : IsNm a ∧ IsNm b) : swapY a b t = (rplT (byR (swB a b)) t, 0) := by
  unfold swapY
  have g1 : ¬ ¬ ValT t := fun x => x h1
  have g2 : ¬ ¬ (IsNm a ∧ IsNm b) := fun x => x h2
  rw [if_neg g1, if_neg g2]
theorem swap_agree (a b : List Nat) (t : Tr) : Agree (swapX a b t) (swapY a b t) := by
  by_cases h1 : ValT t
  · by_cases h2 : IsNm a ∧ IsNm b
    · rw [swapX_ok h1 h2, swapY_ok h1 h2]
      have v := val_byP h2.1 h2.2 h1
      exact ⟨rfl, fun x => absurd rfl x, fun _ => ⟨okT_clone v.1, okT_byR h2.1 h2.2 h1.1, sameB_key.2 (by rw [key_clone v.1, key_byP, key_byR a b h1.1])⟩⟩
    · have g : ¬ ¬ ValT t := fun x => x h1
      unfold swapX swapY
      rw [if_neg g, if_neg g, if_pos h2, if_pos h2]
      exact ⟨rfl, fun _ => rfl, fun x => by cases x⟩
  · unfold swapX swapY
    rw [if_pos h1, if_pos h1]
    exact ⟨rfl, fun _ => rfl, fun x => by cases x⟩
theorem swap_twice {a b : List Nat} {t : Tr} (h : (swapX a b t).2 = 0) : ValT t ∧ ∃ u, swapX a b (swapX a b t).1 = (u, 0) ∧ okT 1 u ∧ sameB u t = true := by
  by_cases h1 : ValT t
  · by_cases h2 : IsNm a ∧ IsNm b
    · rw [swapX_ok h1 h2]
      have v0 := val_byP h2.1 h2.2 h1
      have v := val_clone v0
      have v2 := val_byP h2.1 h2.2 v
      refine ⟨h1, _, swapX_ok v h2, okT_clone v2.1, sameB_key.2 ?_⟩
      rw [key_clone v2.1, key_byP, key_clone v0.1, key_byP, swK_swK]
    · have g : ¬ ¬ ValT t := fun x => x h1
      unfold swapX at h
      rw [if_neg g, if_pos h2] at h; cases h
  · unfold swapX at h
    rw [if_pos h1] at h; cases h
end Go.Proofs.YtchcjbbnkcodjaaGreatDoor