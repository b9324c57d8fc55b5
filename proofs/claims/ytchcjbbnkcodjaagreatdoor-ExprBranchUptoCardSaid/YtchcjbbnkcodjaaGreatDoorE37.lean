/- Binds in memory; the document's subst; Swap's law. -/
import Derived.Test.YtchcjbbnkcodjaaGreatDoorE35
set_option linter.unusedVariables false
set_option linter.unusedSimpArgs false
namespace Go.Vc
open Go Go.Dig
theorem Ld.tl {h : Heap} {A F tl : Own} {b off : Nat} {k : Value → Prop} {l : List Value} {T : TypeId} {v : Value} (hv : l[off]? = some v) (hk : k v) : Ld h (A ++ (F ++ (b, .cells l.toArray T (0, 0)) :: tl)) ⟨b, off, none⟩ k :=
  ⟨v, ⟨rfl, l.toArray, T, (0, 0), .inr (by simp), by simpa using hv⟩, hk⟩
end Go.Vc
namespace Go.Proofs.YtchcjbbnkcodjaaGreatDoor
open Go Go.Vc Go.Dig
def IsBs (h : Heap) (c : Array Value) : Nat → List (List Nat × Tr) → Prop
  | _, [] => True
  | off, (n, t) :: bs => (c[off]? = some (.string (txt n)) ∧ (∀ y ∈ n, y < 256) ∧ ∃ vs, vs.length = 7 ∧ (∀ i, i < 7 → c[off + 1 + i]? = vs[i]?) ∧ IsE h vs t) ∧ IsBs h c (off + 8) bs
structure IsB (h : Heap) (s : Sl) (bs : List (List Nat × Tr)) : Prop where
  len : s.l = bs.length
  cap : s.l ≤ s.c
  mem : bs = [] ∨ ∃ bl off c T fz, s.a = some ⟨bl, off, none⟩ ∧ h bl = some (.cells c T fz) ∧ IsBs h c off bs
attribute [local irreducible] Vc.Fn
end Go.Proofs.YtchcjbbnkcodjaaGreatDoor