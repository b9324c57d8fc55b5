/- Trees with numbers (keys): equal trees have equal keys; copies keep them; nodes replaced. -/
import Derived.Test.YtchcjbbnkcodjaaGreatDoorE32
import Derived.Test.YtchcjbbnkcodjaaGreatDoorE19
set_option linter.unusedVariables false
set_option linter.unusedSimpArgs false
namespace Go.Proofs.YtchcjbbnkcodjaaGreatDoor
open Go Go.Vc Go.Dig
inductive Kt where
  | mk (op arg : Int) (q : Rat) (name : List Nat) (kids : List Kt)
mutual
def key : Tr → Kt
  | .mk op arg neg l m name ks => .mk op arg (ratOf neg l m) name (keys ks)
def keys : List Tr → List Kt
  | [] => []
  | t :: ts => key t :: keys ts
end
mutual
theorem sameB_key : ∀ {t u : Tr}, sameB t u = true ↔ key t = key u
  | .mk op arg neg l m name ks, .mk op' arg' neg' l' m' name' ks' => by
    rw [sameB, key, key, Bool.and_eq_true, decide_eq_true_eq, sameBs_keys, Kt.mk.injEq]
    constructor
    · rintro ⟨⟨a, b, c, d⟩, e⟩; exact ⟨a, b, d, c, e⟩
    · rintro ⟨a, b, d, c, e⟩; exact ⟨⟨a, b, c, d⟩, e⟩
theorem sameBs_keys : ∀ {a b : List Tr}, sameBs a b = true ↔ keys a = keys b
  | [], [] => by rw [sameBs, keys]; exact ⟨fun _ => rfl, fun _ => rfl⟩
  | [], _ :: _ => by rw [sameBs, keys, keys]; exact ⟨fun h => (by cases h), fun h => (by cases h)⟩
  | _ :: _, [] => by rw [sameBs, keys, keys]; exact ⟨fun h => (by cases h), fun h => (by cases h)⟩
  | t :: ts, u :: us => by rw [sameBs, keys, keys, Bool.and_eq_true, sameB_key, sameBs_keys, List.cons.injEq]
end

mutual
def rplT (g : Tr → Option Tr) : Tr → Tr
  | .mk op arg neg l m name ks => match g (.mk op arg neg l m name ks) with
    | some u => u
    | none => .mk op arg neg l m name (rplTs g ks)
def rplTs (g : Tr → Option Tr) : List Tr → List Tr
  | [] => []
  | t :: ts => rplT g t :: rplTs g ts
end
theorem rplTs_len (g : Tr → Option Tr) : ∀ a : List Tr, (rplTs g a).length = a.length
  | [] => by rw [rplTs]
  | t :: a => by rw [rplTs, List.length_cons, List.length_cons, rplTs_len g a]
mutual
theorem key_clone : ∀ {d : Nat} {t : Tr}, okT d t → key (cloneT t) = key t
  | d, .mk op arg neg l m name ks, h => by
    rw [okT] at h
    obtain ⟨-, hn, hk⟩ := h
    have hq := hn.2.2.2.2
    rw [cloneT]
    split
    · rename_i o
      rw [if_pos o] at hq
      rw [key, key, ratOf_dg, canQ, if_pos hq.1, keys_clone hk]
    · rename_i o
      rw [if_neg o] at hq
      rw [key, key, keys_clone hk, ratOf_nil hq, ratOf_nil (show evl 4294967296 [] = 0 from evl_nil _)]
theorem keys_clone : ∀ {d : Nat} {ts : List Tr}, okTs d ts → keys (cloneTs ts) = keys ts
  | _, [], _ => by rw [cloneTs]
  | d, t :: ts, h => by
    rw [okTs] at h
    rw [cloneTs, keys, keys, key_clone h.1, keys_clone h.2]
end
mutual
theorem szT_clone : ∀ {t : Tr}, szT (cloneT t) = szT t
  | .mk op arg neg l m name ks => by
    rw [cloneT]
    split <;> rw [szT, szT, szTs_clone]
theorem szTs_clone : ∀ {ts : List Tr}, szTs (cloneTs ts) = szTs ts
  | [] => by rw [cloneTs]
  | t :: ts => by rw [cloneTs, szTs, szTs, szT_clone, szTs_clone]
end
mutual
theorem okT_clone : ∀ {d : Nat} {t : Tr}, okT d t → okT d (cloneT t)
  | d, .mk op arg neg l m name ks, h => by
    rw [okT] at h
    obtain ⟨hd, hn, hk⟩ := h
    have hq := hn.2.2.2.2
    rw [cloneT]
    split
    · rename_i o
      rw [if_pos o] at hq
      rw [okT]
      refine ⟨hd, ⟨by rw [cloneTs_len]; exact hn.1, hn.2.1, hn.2.2.1, hn.2.2.2.1, ?_⟩, okTs_clone hk⟩
      rw [if_pos o]
      exact ⟨okR_dg (canQ_fits _ _ _), by rw [ratOf_dg, canQ, if_pos hq.1]; exact hq.2⟩
    · rename_i o
      rw [okT]
      refine ⟨hd, ⟨by rw [cloneTs_len]; exact hn.1, hn.2.1, hn.2.2.1, hn.2.2.2.1, ?_⟩, okTs_clone hk⟩
      rw [if_neg o]; exact evl_nil _
theorem okTs_clone : ∀ {d : Nat} {ts : List Tr}, okTs d ts → okTs d (cloneTs ts)
  | _, [], _ => by rw [cloneTs, okTs]; trivial
  | d, t :: ts, h => by
    rw [okTs] at h
    rw [cloneTs, okTs]
    exact ⟨okT_clone h.1, okTs_clone h.2⟩
end
theorem val_clone {t : Tr} (h : ValT t) : ValT (cloneT t) := ⟨okT_clone h.1, by rw [szT_clone]; exact h.2⟩
theorem same_clone {t : Tr} (h : ValT t) : sameB (cloneT t) t = true := sameB_key.2 (key_clone h.1)
end Go.Proofs.YtchcjbbnkcodjaaGreatDoor