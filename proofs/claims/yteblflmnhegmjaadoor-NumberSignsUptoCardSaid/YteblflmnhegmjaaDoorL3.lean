/- What the statements on sums, differences and middles compute: true. -/
import Derived.Test.YteblflmnhegmjaaDoorL2
set_option linter.unusedVariables false
set_option linter.unusedSimpArgs false
namespace Go.Proofs.YteblflmnhegmjaaDoor
open Go Go.Vc Go.Dig

/-- a result: small, and 0 beside an error -/
structure Rok (p : Rat × Int) : Prop where
  sz : Sz 1073741824 p.1
  err : p.2 ≠ 0 → p.1 = 0
theorem sz_zero (k : Nat) : Sz (k + 1) 0 := ⟨by rw [nu_zero, ln_zero]; omega, by rw [show (0 : Rat).den = 1 from rfl, ln_one _ two_le_B]; omega⟩
theorem Rok.err1 (e : Int) : Rok (0, e) := ⟨(sz_zero 0).mono (by decide), fun _ => rfl⟩
theorem Rok.out (q : Rat) : Rok (outR q) := by
  unfold outR
  split
  · rename_i h; exact ⟨⟨Nat.le_trans h.1 (by decide), Nat.le_trans h.2 (by decide)⟩, fun x => absurd rfl x⟩
  · exact Rok.err1 1
theorem Rok.spec2 (op : Rat → Rat → Rat) (n1 : Bool) (l1 m1 : List Nat) (n2 : Bool) (l2 m2 : List Nat) : Rok (Proofs.YteblflmnhegmjaaDoor.spec2 op n1 l1 m1 n2 l2 m2) := by
  unfold Proofs.YteblflmnhegmjaaDoor.spec2
  split
  · exact Rok.out _
  · exact Rok.err1 1

end Go.Proofs.YteblflmnhegmjaaDoor
