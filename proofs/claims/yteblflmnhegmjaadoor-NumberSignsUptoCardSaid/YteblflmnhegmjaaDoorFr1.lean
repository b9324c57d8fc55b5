/- How a value that comes in is read by the statements' form: a struct of a bool and two slices of words. -/
import Derived.Test.YteblflmnhegmjaaDoorRep
import Derived.WalkKit
import Derived.ProofKit
import Derived.ChangeSlices
import Derived.ChangeSame
import Derived.RowKit
set_option linter.unusedVariables false
set_option linter.unusedSimpArgs false
namespace Go.Proofs.YteblflmnhegmjaaDoor
open Go Go.Vc Go.Dig Go.ChangeShapes Go.WideShapes Go.ChangeAt Go.RowKit

/-- all of a world's memory, that nobody writes any more -/
def heapOf (w : World) : Heap := fun b => w.heap[b]?
theorem heapOf_sat (w : World) : Sat (heapOf w) [] w := ⟨fun _ _ h => h, fun _ h => (by cases h), fun _ h => (by cases h), (by simp)⟩

theorem add_none (b off i : Nat) : Addr.add ⟨b, off, none⟩ i = ⟨b, off + i, none⟩ := by
  unfold Addr.add; split <;> simp_all
theorem cell_get {w : World} {a : Addr} {v : Value} (h : w.cell? a = some v) : a.spot = none ∧ ∃ c T fz, w.heap[a.block]? = some (.cells c T fz) ∧ c[a.off]? = some v := by
  unfold World.cell? at h
  split at h
  · rename_i c T fz hc
    split at h
    · cases h
    · rename_i hn
      exact ⟨by cases hs : a.spot <;> simp_all, c, T, fz, hc, h⟩
  · cases h

section
variable {H : Type} {enc : TypeId × Value → H} {P : Program} {w : World} {base : Nat} {spare : Nat → Bool} {held : Bool}

/-- a slice of words that was read: its head and what stands in it -/
theorem open_words {t e : TypeId} {fuel : Nat} {cs : List Value} {x : DataW H × List MemPlace} (ht : P.underlying t = some (.slice e)) (he : P.underlying e = some (.int .u32)) (hc : P.cellsOf e = 1)
    (h : DataW.trod enc P w base (fun _ => true) held fuel t cs = some x) :
    ∃ (s : Sl) (l : List Nat), cs = [s.val] ∧ Ws .u32 (heapOf w) s l ∧ (∀ y ∈ l, y < 4294967296) ∧ (x.1 = .nil ∧ l = [] ∨ ∃ el sp, x.1 = .slice el sp ∧ el.length = l.length) ∧
      ∀ (W' : World) (sp' : Nat → Bool), (∀ a v, w.cell? a = some v → W'.cell? a = some v) → (∀ p ∈ x.2, sp' p.block = true) → ∀ m, DataW.trod enc P W' base sp' held (m + 2) t cs = some x := by
  rcases open_ints ht he hc h with ⟨rfl, rfl⟩ | ⟨a, len, cap, zs, rfl, hba, hlc, hcm, hzl, rfl, hcell, hwf⟩
  · exact ⟨⟨none, 0, 0⟩, [], rfl, Ws.nil rfl, by simp, .inl ⟨rfl, rfl⟩, fun W' sp' _ _ m => by rw [DataW.trod_step]; simp [DataW.trodStep, ht]⟩
  · have hle : len ≤ zs.length := by rw [hzl]; split <;> omega
    have hb : ∀ i, i < zs.length → 0 ≤ zs.getD i 0 ∧ zs.getD i 0 < 4294967296 := fun i hi => by
      have := hwf (zs.getD i 0) (by simp [List.getD_eq_getElem?_getD, hi])
      simp only [Lit.wf, Bool.and_eq_true, decide_eq_true_eq] at this
      rw [show IntKind.min .u32 = 0 from rfl, show IntKind.max .u32 = 4294967295 from rfl] at this
      omega
    refine ⟨⟨some a, len, cap⟩, (zs.take len).map Int.toNat, rfl, ⟨by simp; omega, hlc, fun hne => ?_⟩, fun y hy => ?_, .inr ⟨_, _, rfl, ?_⟩, fun W' sp' hkeep hsp m => ?_⟩
    · have hpos : 0 < len := by
        rcases Nat.eq_zero_or_pos len with h0 | h0
        · subst h0; simp at hne
        · exact h0
      have hz : ∀ i, i < zs.length → zs.getD i 0 = (((zs.getD i 0).toNat : Nat) : Int) := fun i hi => by have := hb i hi; omega
      obtain ⟨b, off, spot⟩ := a
      have h0 := hcell 0 (by omega)
      rw [show Addr.add ⟨b, off, spot⟩ 0 = ⟨b, off, spot⟩ from rfl] at h0
      obtain ⟨hs, c, T, fz, hc, -⟩ := cell_get h0
      change spot = none at hs
      subst hs
      refine ⟨b, off, c, T, fz, rfl, hc, fun i hi => ?_⟩
      simp only [List.length_map, List.length_take] at hi
      have h1 := hcell i (by omega)
      rw [add_none] at h1
      obtain ⟨-, c', T', fz', hc', h2⟩ := cell_get h1
      rw [hc] at hc'
      cases hc'
      rw [h2]
      have e := hz i (by omega)
      have e2 : ((zs.take len).map Int.toNat).getD i 0 = (zs.getD i 0).toNat := by
        rw [List.getD_eq_getElem?_getD, List.getElem?_map, List.getElem?_take, if_pos (by omega), List.getD_eq_getElem?_getD, List.getElem?_eq_getElem (by omega)]
        rfl
      rw [e2, ← e]
    · obtain ⟨z, hz, rfl⟩ := List.mem_map.1 hy
      obtain ⟨i, hi, rfl⟩ := List.getElem_of_mem hz
      simp only [List.length_take] at hi
      have := hb i (by omega)
      rw [List.getD_eq_getElem?_getD, List.getElem?_eq_getElem (by omega), Option.getD_some] at this
      rw [List.getElem_take]
      omega
    · simp [lits]
    · refine shut_ints m ht he hc hba hlc hcm ?_ (fun i hi => hkeep _ _ (hcell i hi)) hwf
      rw [if_pos rfl] at hzl
      rcases Nat.eq_zero_or_pos cap with h0 | h0
      · split <;> omega
      · have := hsp (.cell a.block a.off) (by
          obtain ⟨n, hn⟩ : ∃ n, zs.length = n + 1 := ⟨zs.length - 1, by omega⟩
          rw [hn]
          simp [MemPlace.row, List.range_succ_eq_map])
        rw [show sp' a.block = true from this, if_pos rfl, hzl]
end
end Go.Proofs.YteblflmnhegmjaaDoor
