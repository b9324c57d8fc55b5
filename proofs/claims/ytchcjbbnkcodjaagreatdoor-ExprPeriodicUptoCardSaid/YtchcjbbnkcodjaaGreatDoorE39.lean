/- Periods: plain. -/
import Derived.Test.YtchcjbbnkcodjaaGreatDoorE38
set_option linter.unusedVariables false
set_option linter.unusedSimpArgs false
namespace Go.Proofs.YtchcjbbnkcodjaaGreatDoor
open Go Go.Vc Go.Dig
mutual
def hasT (nm : List Nat) : Tr → Bool
  | .mk op _ _ _ _ name ks => decide (op = 2 ∧ name = nm) || hasTs nm ks
def hasTs (nm : List Nat) : List Tr → Bool
  | [] => false
  | t :: ts => hasT nm t || hasTs nm ts
end
mutual
theorem hasT_tags (nm : List Nat) : ∀ {t : Tr}, hasT nm t = true ↔ ∃ x ∈ tagsT t, x.1 = 2 ∧ x.2 = nm
  | .mk op arg neg l m name ks => by
    have := hasTs_tags nm (ts := ks)
    rw [hasT, tagsT, Bool.or_eq_true, decide_eq_true_eq, this]
    constructor
    · rintro (h | ⟨x, h1, h2⟩)
      · exact ⟨_, List.mem_cons_self .., h⟩
      · exact ⟨x, List.mem_cons_of_mem _ h1, h2⟩
    · rintro ⟨x, h1, h2⟩
      rcases List.mem_cons.1 h1 with rfl | h1
      · exact .inl h2
      · exact .inr ⟨x, h1, h2⟩
theorem hasTs_tags (nm : List Nat) : ∀ {ts : List Tr}, hasTs nm ts = true ↔ ∃ x ∈ tagsTs ts, x.1 = 2 ∧ x.2 = nm
  | [] => by rw [hasTs, tagsTs]; simp
  | t :: ts => by
    have h1 := hasT_tags nm (t := t)
    have h2 := hasTs_tags nm (ts := ts)
    rw [hasTs, tagsTs, Bool.or_eq_true, h1, h2]
    constructor
    · rintro (⟨x, a, b⟩ | ⟨x, a, b⟩)
      · exact ⟨x, List.mem_append_left _ a, b⟩
      · exact ⟨x, List.mem_append_right _ a, b⟩
    · rintro ⟨x, a, b⟩
      rcases List.mem_append.1 a with a | a
      · exact .inl ⟨x, a, b⟩
      · exact .inr ⟨x, a, b⟩
end
theorem hasTs_mem {nm : List Nat} : ∀ {ts : List Tr} {t : Tr}, hasTs nm ts = false → t ∈ ts → hasT nm t = false
  | u :: ts, t, h, hm => by
    rw [hasTs, Bool.or_eq_false_iff] at h
    rcases List.mem_cons.1 hm with rfl | hm
    · exact h.1
    · exact hasTs_mem h.2 hm
def litT : Tr → Option Rat
  | .mk op _ neg l m _ ks => if op = 1 then some (ratOf neg l m) else if op = 4 then (match ks with
    | .mk op' _ neg' l' m' _ _ :: _ => if op' = 1 then some (-(ratOf neg' l' m')) else none
    | [] => none) else none
def intL (t : Tr) : Bool := match litT t with | some q => decide (q.den = 1) | none => false
def linF (nm : List Nat) : Nat → Tr → Bool
  | 0, _ => false
  | f + 1, .mk op _ _ _ _ name ks => if op = 2 then decide (name = nm) else if op = 4 then linF nm f (ks.getD 0 zeroT) else
      if op = 5 ∨ op = 6 then (linF nm f (ks.getD 0 zeroT) || linF nm f (ks.getD 1 zeroT)) && (linF nm f (ks.getD 0 zeroT) || !hasT nm (ks.getD 0 zeroT)) && (linF nm f (ks.getD 1 zeroT) || !hasT nm (ks.getD 1 zeroT)) else
      if op = 7 then (intL (ks.getD 0 zeroT) && linF nm f (ks.getD 1 zeroT)) || (intL (ks.getD 1 zeroT) && linF nm f (ks.getD 0 zeroT)) else false
theorem linF_zero (nm : List Nat) : ∀ f, linF nm f zeroT = false
  | 0 => rfl
  | f + 1 => by
    unfold zeroT
    rw [linF, if_neg (by decide), if_neg (by decide), if_neg (by decide), if_neg (by decide)]
theorem szT_getD {op arg : Int} {neg : Bool} {l m name : List Nat} {ks : List Tr} (i : Nat) : szT (ks.getD i zeroT) < szT (.mk op arg neg l m name ks) ∨ ks.getD i zeroT = zeroT := by
  by_cases h : i < ks.length
  · left
    exact szT_kid (j := i) (by rw [List.getD_eq_getElem?_getD, List.getElem?_eq_getElem h]; rfl)
  · right
    rw [List.getD_eq_getElem?_getD, List.getElem?_eq_none (by omega)]; rfl
theorem linF_eq (nm : List Nat) : ∀ (f g : Nat) (t : Tr), szT t ≤ f → szT t ≤ g → linF nm f t = linF nm g t
  | 0, _, t, h, _ => by have := szT_pos t; omega
  | _, 0, t, _, h => by have := szT_pos t; omega
  | f + 1, g + 1, .mk op arg neg l m name ks, h1, h2 => by
    have ih : ∀ i, linF nm f (ks.getD i zeroT) = linF nm g (ks.getD i zeroT) := fun i => by
      rcases szT_getD (op := op) (arg := arg) (neg := neg) (l := l) (m := m) (name := name) (ks := ks) i with h | h
      · exact linF_eq nm f g _ (by omega) (by omega)
      · rw [h, linF_zero, linF_zero]
    rw [linF, linF, ih 0, ih 1]
def linT (nm : List Nat) (t : Tr) : Bool := linF nm (szT t) t
theorem linF_t {nm : List Nat} {f : Nat} {op arg : Int} {neg : Bool} {l m name : List Nat} {ks : List Tr} (hf : szT (.mk op arg neg l m name ks) = f + 1) (i : Nat) : linF nm f (ks.getD i zeroT) = linT nm (ks.getD i zeroT) := by
  unfold linT
  rcases szT_getD (op := op) (arg := arg) (neg := neg) (l := l) (m := m) (name := name) (ks := ks) i with h | h
  · exact linF_eq nm _ _ _ (by omega) (Nat.le_refl _)
  · rw [h, linF_zero, linF_zero]
theorem linT_eq (nm : List Nat) (op arg : Int) (neg : Bool) (l m name : List Nat) (ks : List Tr) : linT nm (.mk op arg neg l m name ks) = if op = 2 then decide (name = nm) else if op = 4 then linT nm (ks.getD 0 zeroT) else
      if op = 5 ∨ op = 6 then (linT nm (ks.getD 0 zeroT) || linT nm (ks.getD 1 zeroT)) && (linT nm (ks.getD 0 zeroT) || !hasT nm (ks.getD 0 zeroT)) && (linT nm (ks.getD 1 zeroT) || !hasT nm (ks.getD 1 zeroT)) else
      if op = 7 then (intL (ks.getD 0 zeroT) && linT nm (ks.getD 1 zeroT)) || (intL (ks.getD 1 zeroT) && linT nm (ks.getD 0 zeroT)) else false := by
  obtain ⟨f, hf⟩ : ∃ f, szT (.mk op arg neg l m name ks) = f + 1 := ⟨szT (.mk op arg neg l m name ks) - 1, by have := szT_pos (.mk op arg neg l m name ks); omega⟩
  have e := fun i => linF_t (nm := nm) hf i
  conv => lhs; unfold linT
  rw [hf, linF, e 0, e 1]
mutual
def perP (nm : List Nat) : Tr → Bool
  | .mk op arg _ _ _ name ks => if op = 2 then decide (name ≠ nm) else if op = 11 ∧ 3 ≤ arg ∧ arg ≤ 5 ∧ linT nm (ks.getD 0 zeroT) = true then true else perPs nm ks
def perPs (nm : List Nat) : List Tr → Bool
  | [] => true
  | t :: ts => perP nm t && perPs nm ts
end
mutual
def perR (nm : List Nat) : Bool → Tr → Bool
  | w, .mk op arg _ _ _ name ks => if op = 2 ∧ name = nm then w else perRs nm (if op = 11 ∧ 3 ≤ arg ∧ arg ≤ 5 then linT nm (ks.getD 0 zeroT) else w) ks
def perRs (nm : List Nat) : Bool → List Tr → Bool
  | _, [] => true
  | w, t :: ts => perR nm w t && perRs nm w ts
end
mutual
theorem perR_not {nm : List Nat} : ∀ {t : Tr} (w : Bool), hasT nm t = false → perR nm w t = true
  | .mk op arg neg l m name ks, w, h => by
    rw [hasT, Bool.or_eq_false_iff, decide_eq_false_iff_not] at h
    rw [perR, if_neg h.1]
    exact perRs_not _ h.2
theorem perRs_not {nm : List Nat} : ∀ {ts : List Tr} (w : Bool), hasTs nm ts = false → perRs nm w ts = true
  | [], w, _ => by rw [perRs]
  | t :: ts, w, h => by
    rw [hasTs, Bool.or_eq_false_iff] at h
    rw [perRs, perR_not w h.1, perRs_not w h.2]; rfl
end
theorem lit_not {nm : List Nat} {d : Nat} {t : Tr} (ht : okT d t) (h : (litT t).isSome = true) : hasT nm t = false := by
  obtain ⟨op, arg, neg, l, m, name, ks⟩ := t
  rw [okT] at ht
  obtain ⟨-, hn, hk⟩ := ht
  have hn1 := hn.1
  unfold litT at h
  dsimp only at h
  by_cases o : op = 1
  · subst o
    obtain rfl : ks = [] := List.length_eq_zero_iff.1 (by have : kidsN 1 = 0 := rfl; omega)
    rw [hasT, hasTs, decide_eq_false (by rintro ⟨x, -⟩; cases x)]; rfl
  · rw [if_neg o] at h
    by_cases o4 : op = 4
    · subst o4
      rw [if_pos rfl] at h
      match ks, hn1, hk, h with
      | [.mk op' arg' neg' l' m' name' ks'], _, hk, h =>
        have h : (if op' = 1 then some (-(ratOf neg' l' m')) else none).isSome = true := h
        by_cases o' : op' = 1
        · subst o'
          rw [okTs, okT] at hk
          have hn' := hk.1.2.1.1
          obtain rfl : ks' = [] := List.length_eq_zero_iff.1 (by have : kidsN 1 = 0 := rfl; omega)
          simp [hasT, hasTs]
        · rw [if_neg o'] at h; cases h
      | [], hn1, _, _ => exact absurd hn1 (by decide)
      | _ :: _ :: _, hn1, _, _ =>
        have : kidsN 4 = 1 := rfl
        simp only [List.length_cons] at hn1
        omega
    · rw [if_neg o4] at h; cases h
theorem intL_lit {t : Tr} (h : intL t = true) : (litT t).isSome = true := by
  unfold intL at h
  cases e : litT t with
  | some q => rfl
  | none => rw [e] at h; cases h
theorem ks_one {op : Int} {ks : List Tr} (h : (ks.length : Int) = kidsN op) (hk : kidsN op = 1) : ks = [ks.getD 0 zeroT] := by
  match ks, h with
  | [a], _ => rfl
  | [], h => simp at h; omega
  | _ :: _ :: _, h => simp at h; omega
theorem ks_two {op : Int} {ks : List Tr} (h : (ks.length : Int) = kidsN op) (hk : kidsN op = 2) : ks = [ks.getD 0 zeroT, ks.getD 1 zeroT] := by
  match ks, h with
  | [a, b], _ => rfl
  | [], h => simp at h; omega
  | [_], h => simp at h; omega
  | _ :: _ :: _ :: _, h => simp at h; omega
theorem perR_lin {nm : List Nat} : ∀ {t : Tr} {d : Nat}, okT d t → linT nm t = true → perR nm true t = true := by
  refine fun {t} => tree_ind (P := fun t => ∀ {d : Nat}, okT d t → linT nm t = true → perR nm true t = true) (fun t ih => ?_) t
  intro d hok h
  obtain ⟨op, arg, neg, l, m, name, ks⟩ := t
  rw [okT] at hok
  obtain ⟨-, hn, hk⟩ := hok
  have hn1 := hn.1
  rw [linT_eq] at h
  by_cases o2 : op = 2
  · rw [if_pos o2, decide_eq_true_eq] at h
    rw [perR, if_pos ⟨o2, h⟩]
  rw [if_neg o2] at h
  have hp : perR nm true (.mk op arg neg l m name ks) = perRs nm (if op = 11 ∧ 3 ≤ arg ∧ arg ≤ 5 then linT nm (ks.getD 0 zeroT) else true) ks := by rw [perR, if_neg (fun x => o2 x.1)]
  by_cases o4 : op = 4
  · rw [if_pos o4] at h
    have e := ks_one hn1 (by rw [o4]; rfl)
    rw [hp, if_neg (by omega), e, perRs, perRs, Bool.and_true]
    exact ih _ (szT_kid (j := 0) (by rw [e]; rfl)) (okTs_mem hk (by rw [e]; exact List.mem_cons_self ..)) h
  rw [if_neg o4] at h
  have two : (op = 5 ∨ op = 6 ∨ op = 7) → (linT nm (ks.getD 0 zeroT) = true ∨ hasT nm (ks.getD 0 zeroT) = false) → (linT nm (ks.getD 1 zeroT) = true ∨ hasT nm (ks.getD 1 zeroT) = false) → perR nm true (.mk op arg neg l m name ks) = true := fun o a b => by
    have e := ks_two hn1 (by rcases o with rfl | rfl | rfl <;> rfl)
    rw [hp, if_neg (by omega), e, perRs, perRs, perRs, Bool.and_true]
    have ha : perR nm true (ks.getD 0 zeroT) = true := a.elim (fun x => ih _ (szT_kid (j := 0) (by rw [e]; rfl)) (okTs_mem hk (by rw [e]; exact List.mem_cons_self ..)) x) (perR_not _)
    have hb : perR nm true (ks.getD 1 zeroT) = true := b.elim (fun x => ih _ (szT_kid (j := 1) (by rw [e]; rfl)) (okTs_mem hk (by rw [e]; exact List.mem_cons_of_mem _ (List.mem_cons_self ..))) x) (perR_not _)
    rw [ha, hb]; rfl
  by_cases o56 : op = 5 ∨ op = 6
  · rw [if_pos o56, Bool.and_eq_true, Bool.and_eq_true, Bool.or_eq_true, Bool.or_eq_true, Bool.or_eq_true] at h
    obtain ⟨⟨-, a⟩, b⟩ := h
    exact two (by omega) (a.imp id fun x => by simpa using x) (b.imp id fun x => by simpa using x)
  rw [if_neg o56] at h
  by_cases o7 : op = 7
  · rw [if_pos o7, Bool.or_eq_true, Bool.and_eq_true, Bool.and_eq_true] at h
    have e := ks_two hn1 (by rw [o7]; rfl)
    have k0 : okT (d + 1) (ks.getD 0 zeroT) := okTs_mem hk (by rw [e]; exact List.mem_cons_self ..)
    have k1 : okT (d + 1) (ks.getD 1 zeroT) := okTs_mem hk (by rw [e]; exact List.mem_cons_of_mem _ (List.mem_cons_self ..))
    rcases h with ⟨a, b⟩ | ⟨a, b⟩
    · exact two (by omega) (.inr (lit_not k0 (intL_lit a))) (.inl b)
    · exact two (by omega) (.inl b) (.inr (lit_not k1 (intL_lit a)))
  rw [if_neg o7] at h; cases h
mutual
theorem per_eq (nm : List Nat) : ∀ {t : Tr} {d : Nat}, okT d t → perP nm t = perR nm false t
  | .mk op arg neg l m name ks, d, hok => by
    rw [okT] at hok
    obtain ⟨-, hn, hk⟩ := hok
    have hn1 := hn.1
    rw [perP, perR]
    by_cases o2 : op = 2
    · rw [if_pos o2]
      by_cases hm : name = nm
      · rw [if_pos ⟨o2, hm⟩, decide_eq_false (fun x => x hm)]
      · rw [if_neg (fun x => hm x.2), decide_eq_true hm]
        obtain rfl : ks = [] := List.length_eq_zero_iff.1 (by have : kidsN 2 = 0 := rfl; rw [o2] at hn1; omega)
        rw [perRs]
    · have g : ¬ (op = 2 ∧ name = nm) := fun x => o2 x.1
      rw [if_neg o2, if_neg g]
      by_cases oc : op = 11 ∧ 3 ≤ arg ∧ arg ≤ 5
      · rw [if_pos oc]
        have e := ks_one hn1 (by rw [oc.1]; rfl)
        cases hl : linT nm (ks.getD 0 zeroT) with
        | true =>
          rw [if_pos (show op = 11 ∧ 3 ≤ arg ∧ arg ≤ 5 ∧ true = true from ⟨oc.1, oc.2.1, oc.2.2, rfl⟩)]
          have k0 : okT (d + 1) (ks.getD 0 zeroT) := okTs_mem hk (by rw [e]; exact List.mem_cons_self ..)
          have := perR_lin k0 hl
          rw [e, perRs, perRs, this]; rfl
        | false =>
          have g2 : ¬ (op = 11 ∧ 3 ≤ arg ∧ arg ≤ 5 ∧ false = true) := fun x => by cases x.2.2.2
          rw [if_neg g2]
          exact pers_eq nm hk
      · have g3 : ¬ (op = 11 ∧ 3 ≤ arg ∧ arg ≤ 5 ∧ linT nm (ks.getD 0 zeroT) = true) := fun x => oc ⟨x.1, x.2.1, x.2.2.1⟩
        rw [if_neg oc, if_neg g3]
        exact pers_eq nm hk
theorem pers_eq (nm : List Nat) : ∀ {ts : List Tr} {d : Nat}, okTs d ts → perPs nm ts = perRs nm false ts
  | [], _, _ => by rw [perPs, perRs]
  | t :: ts, d, h => by
    rw [okTs] at h
    rw [perPs, perRs, per_eq nm h.1, pers_eq nm h.2]
end
theorem perP_not {nm : List Nat} {t : Tr} {d : Nat} (hok : okT d t) (h : hasT nm t = false) : perP nm t = true := by
  rw [per_eq nm hok]; exact perR_not _ h
theorem perP_mul (nm : List Nat) (a b : Tr) : perP nm (nodeT 7 0 [a, b]) = (perP nm a && perP nm b) := by
  unfold nodeT
  rw [perP, if_neg (by decide), if_neg (by rintro ⟨x, -⟩; cases x), perPs, perPs, perPs, Bool.and_true]
end Go.Proofs.YtchcjbbnkcodjaaGreatDoor