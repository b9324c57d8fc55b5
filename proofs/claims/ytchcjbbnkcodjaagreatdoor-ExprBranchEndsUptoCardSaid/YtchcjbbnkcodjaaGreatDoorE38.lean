/- Case distinctions: plain. -/
import Derived.Test.YtchcjbbnkcodjaaGreatDoorE33
set_option linter.unusedVariables false
set_option linter.unusedSimpArgs false
namespace Go.Proofs.YtchcjbbnkcodjaaGreatDoor
open Go Go.Vc Go.Dig
def roughB (op : Int) : Prop := 12 ≤ op ∧ op ≤ 15
instance (op : Int) : Decidable (roughB op) := by unfold roughB; exact inferInstance
mutual
def tagsT : Tr → List (Int × List Nat)
  | .mk op _ _ _ _ name ks => (op, name) :: tagsTs ks
def tagsTs : List Tr → List (Int × List Nat)
  | [] => []
  | t :: ts => tagsT t ++ tagsTs ts
end
mutual
def resT : Tr → Option (Tr × Tr × Tr)
  | .mk op arg neg l m name ks => match resTs (if op = 15 then 1 else ks.length) ks with
    | some (i, c, y, z) => some (c, .mk op arg neg l m name (ks.set i y), .mk op arg neg l m name (ks.set i z))
    | none => if op = 12 then some (ks.getD 0 zeroT, ks.getD 0 zeroT, nodeT 4 0 [ks.getD 0 zeroT]) else if op = 13 then some (nodeT 6 0 [ks.getD 1 zeroT, ks.getD 0 zeroT], ks.getD 0 zeroT, ks.getD 1 zeroT)
      else if op = 14 then some (nodeT 6 0 [ks.getD 0 zeroT, ks.getD 1 zeroT], ks.getD 0 zeroT, ks.getD 1 zeroT) else if op = 15 then some (ks.getD 0 zeroT, ks.getD 1 zeroT, ks.getD 2 zeroT) else none
def resTs : Nat → List Tr → Option (Nat × Tr × Tr × Tr)
  | 0, _ => none
  | _ + 1, [] => none
  | n + 1, t :: ts => match resT t with
    | some r => some (0, r)
    | none => match resTs n ts with
      | some (i, r) => some (i + 1, r)
      | none => none
end
mutual
def cntC : Tr → Nat
  | .mk op _ _ _ _ _ ks => (if roughB op then 1 else 0) + cntCs ks
def cntCs : List Tr → Nat
  | [] => 0
  | t :: ts => cntC t + cntCs ts
end
theorem cntCs_set : ∀ {ts : List Tr} {i : Nat} {t u : Tr}, ts[i]? = some t → cntCs (ts.set i u) + cntC t = cntCs ts + cntC u
  | [], _, _, _, h => by simp at h
  | x :: xs, 0, t, u, h => by
    simp at h; subst h
    rw [List.set_cons_zero, cntCs, cntCs]; omega
  | x :: xs, i + 1, t, u, h => by
    have := cntCs_set (ts := xs) (i := i) (u := u) (by simpa using h)
    rw [List.set_cons_succ, cntCs, cntCs]; omega
theorem cntCs_mem : ∀ {ts : List Tr} {t : Tr}, t ∈ ts → cntC t ≤ cntCs ts
  | x :: xs, t, h => by
    rw [cntCs]
    rcases List.mem_cons.1 h with rfl | h
    · omega
    · have := cntCs_mem h; omega
theorem resTs_at : ∀ {n : Nat} {ts : List Tr} {i : Nat} {r : Tr × Tr × Tr}, resTs n ts = some (i, r) → i < n ∧ ∃ t, ts[i]? = some t ∧ resT t = some r
  | 0, _, _, _, h => by rw [resTs] at h; cases h
  | _ + 1, [], _, _, h => by rw [resTs] at h; cases h
  | n + 1, t :: ts, i, r, h => by
    rw [resTs] at h
    cases hr : resT t with
    | some r' =>
      rw [hr] at h
      cases h
      exact ⟨by omega, t, rfl, hr⟩
    | none =>
      rw [hr] at h
      cases hs : resTs n ts with
      | none => rw [hs] at h; cases h
      | some p =>
        obtain ⟨j, r'⟩ := p
        rw [hs] at h
        cases h
        obtain ⟨h1, u, h2, h3⟩ := resTs_at hs
        exact ⟨by omega, u, by simpa using h2, h3⟩
theorem resTs_none : ∀ {n : Nat} {ts : List Tr}, ts.length ≤ n → (resTs n ts = none ↔ ∀ t ∈ ts, resT t = none)
  | 0, [], _ => by rw [resTs]; simp
  | 0, _ :: _, h => by simp at h
  | _ + 1, [], _ => by rw [resTs]; simp
  | n + 1, t :: ts, h => by
    have ih := resTs_none (n := n) (ts := ts) (by simpa using h)
    rw [resTs]
    cases hr : resT t with
    | some r => simp [hr]
    | none =>
      cases hs : resTs n ts with
      | none => simpa [hr] using ih.1 hs
      | some p =>
        refine ⟨fun x => (by cases x), fun x => ?_⟩
        have := ih.2 fun u hu => x u (List.mem_cons_of_mem _ hu)
        rw [hs] at this; cases this
def topT (op : Int) (ks : List Tr) : Option (Tr × Tr × Tr) :=
  if op = 12 then some (ks.getD 0 zeroT, ks.getD 0 zeroT, nodeT 4 0 [ks.getD 0 zeroT]) else if op = 13 then some (nodeT 6 0 [ks.getD 1 zeroT, ks.getD 0 zeroT], ks.getD 0 zeroT, ks.getD 1 zeroT)
      else if op = 14 then some (nodeT 6 0 [ks.getD 0 zeroT, ks.getD 1 zeroT], ks.getD 0 zeroT, ks.getD 1 zeroT) else if op = 15 then some (ks.getD 0 zeroT, ks.getD 1 zeroT, ks.getD 2 zeroT) else none
theorem resT_kid {op arg : Int} {neg : Bool} {l m name : List Nat} {ks : List Tr} {i : Nat} {c y z : Tr} (h : resTs (if op = 15 then 1 else ks.length) ks = some (i, c, y, z)) : resT (.mk op arg neg l m name ks) = some (c, .mk op arg neg l m name (ks.set i y), .mk op arg neg l m name (ks.set i z)) := by
  rw [resT, h]
theorem resT_top {op arg : Int} {neg : Bool} {l m name : List Nat} {ks : List Tr} (h : resTs (if op = 15 then 1 else ks.length) ks = none) : resT (.mk op arg neg l m name ks) = topT op ks := by
  rw [resT, h]; rfl
theorem topT_none {op : Int} {ks : List Tr} : topT op ks = none ↔ ¬ roughB op := by
  unfold topT roughB
  constructor
  · intro h
    repeat' split at h
    all_goals first | (cases h; done) | omega
  · intro h
    rw [if_neg (by omega), if_neg (by omega), if_neg (by omega), if_neg (by omega)]
mutual
theorem resT_none : ∀ {t : Tr}, resT t = none ↔ ∀ x ∈ tagsT t, ¬ roughB x.1
  | .mk op arg neg l m name ks => by
    rw [tagsT]
    by_cases ho : op = 15
    · have : resT (.mk op arg neg l m name ks) ≠ none := by
        cases hr : resTs (if op = 15 then 1 else ks.length) ks with
        | some p => obtain ⟨i, c, y, z⟩ := p; rw [resT_kid hr]; simp
        | none => rw [resT_top hr]; intro x; exact topT_none.1 x (by unfold roughB; omega)
      exact ⟨fun x => absurd x this, fun x => absurd (show roughB op by unfold roughB; omega) (x _ (List.mem_cons_self ..))⟩
    · have hk := resTs_all (ts := ks)
      have hn := resTs_none (n := if op = 15 then 1 else ks.length) (ts := ks) (by rw [if_neg ho]; exact Nat.le_refl _)
      cases hr : resTs (if op = 15 then 1 else ks.length) ks with
      | some p =>
        obtain ⟨i, c, y, z⟩ := p
        rw [resT_kid hr]
        refine ⟨fun x => (by cases x), fun x => ?_⟩
        have := hn.2 (hk.2 fun y hy => x y (List.mem_cons_of_mem _ hy))
        rw [hr] at this; cases this
      | none =>
        rw [resT_top hr, topT_none]
        have := hk.1 (hn.1 hr)
        exact ⟨fun x y hy => by
          rcases List.mem_cons.1 hy with rfl | hy
          · exact x
          · exact this y hy, fun x => x _ (List.mem_cons_self ..)⟩
theorem resTs_all : ∀ {ts : List Tr}, (∀ t ∈ ts, resT t = none) ↔ ∀ x ∈ tagsTs ts, ¬ roughB x.1
  | [] => by rw [tagsTs]; simp
  | t :: ts => by
    have h1 := resT_none (t := t)
    have h2 := resTs_all (ts := ts)
    rw [tagsTs]
    constructor
    · intro h x hx
      rcases List.mem_append.1 hx with hx | hx
      · exact h1.1 (h t (List.mem_cons_self ..)) x hx
      · exact h2.1 (fun u hu => h u (List.mem_cons_of_mem _ hu)) x hx
    · intro h u hu
      rcases List.mem_cons.1 hu with rfl | hu
      · exact h1.2 fun x hx => h x (List.mem_append_left _ hx)
      · exact h2.2 (fun x hx => h x (List.mem_append_right _ hx)) u hu
end
theorem cntC_node (op arg : Int) (ts : List Tr) (h : ¬ roughB op) : cntC (nodeT op arg ts) = cntCs ts := by
  unfold nodeT
  rw [cntC, if_neg h, Nat.zero_add]
theorem kidD_mem {ts : List Tr} {i : Nat} (h : i < ts.length) : ts.getD i zeroT ∈ ts := by
  rw [List.getD_eq_getElem?_getD, List.getElem?_eq_getElem h]
  exact List.getElem_mem _
theorem cntCs_getD {ts : List Tr} (i : Nat) : cntC (ts.getD i zeroT) ≤ cntCs ts := by
  by_cases h : i < ts.length
  · exact cntCs_mem (kidD_mem h)
  · rw [List.getD_eq_getElem?_getD, List.getElem?_eq_none (by omega)]
    have : cntC zeroT = 0 := by unfold zeroT; rw [cntC, cntCs]; rfl
    exact Nat.le_trans (Nat.le_of_eq this) (Nat.zero_le _)
theorem resT_less : ∀ {t c y z : Tr}, resT t = some (c, y, z) → cntC y < cntC t ∧ cntC z < cntC t := by
  refine fun {t} => tree_ind (P := fun t => ∀ {c y z : Tr}, resT t = some (c, y, z) → cntC y < cntC t ∧ cntC z < cntC t) (fun t ih => ?_) t
  intro c y z h
  obtain ⟨op, arg, neg, l, m, name, ks⟩ := t
  cases hr : resTs (if op = 15 then 1 else ks.length) ks with
  | some p =>
    obtain ⟨i, c', y', z'⟩ := p
    rw [resT_kid hr] at h
    cases h
    obtain ⟨-, u, h2, h3⟩ := resTs_at hr
    obtain ⟨i1, i2⟩ := ih u (szT_kid h2) h3
    have s1 := cntCs_set (u := y') h2
    have s2 := cntCs_set (u := z') h2
    rw [cntC, cntC, cntC]
    omega
  | none =>
    rw [resT_top hr] at h
    have hro : roughB op := by
      by_cases x : roughB op
      · exact x
      · rw [topT_none.2 x] at h; cases h
    have g0 := cntCs_getD (ts := ks) 0
    have g1 := cntCs_getD (ts := ks) 1
    have g2 := cntCs_getD (ts := ks) 2
    have g3 : cntC (nodeT 4 0 [ks.getD 0 zeroT]) = cntC (ks.getD 0 zeroT) := by rw [cntC_node _ _ _ (by decide), cntCs, cntCs]; omega
    rw [cntC, if_pos hro]
    unfold topT at h
    repeat' split at h
    all_goals first
      | (cases h; done)
      | (injection h with h; injection h with h1 h; injection h with h2 h3; subst h1 h2 h3; omega)
mutual
theorem cntC_clone : ∀ {t : Tr}, cntC (cloneT t) = cntC t
  | .mk op arg neg l m name ks => by
    rw [cloneT]
    split <;> rw [cntC, cntC, cntCs_clone]
theorem cntCs_clone : ∀ {ts : List Tr}, cntCs (cloneTs ts) = cntCs ts
  | [] => by rw [cloneTs]
  | t :: ts => by rw [cloneTs, cntCs, cntCs, cntC_clone, cntCs_clone]
end
end Go.Proofs.YtchcjbbnkcodjaaGreatDoor