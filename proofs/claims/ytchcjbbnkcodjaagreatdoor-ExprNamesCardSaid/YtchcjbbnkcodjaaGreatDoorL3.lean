/- Contracts of the reference's functions on rational numbers, first part. -/
import Derived.Test.YtchcjbbnkcodjaaGreatDoorR6
import Derived.Test.YtchcjbbnkcodjaaGreatDoorRep3
import Derived.Test.YtchcjbbnkcodjaaGreatDoorW10
set_option linter.unusedVariables false
set_option linter.unusedSimpArgs false
namespace Go.Dig
end Go.Dig
namespace Go.Proofs.YtchcjbbnkcodjaaGreatDoor
open Go Go.Vc Go.Dig

/-- numerator and denominator of a rational number, as the reference has them -/
structure IsQ (h : Heap) (a b : Sl) (q : Rat) : Prop where
  num : IsRef h a (nu q)
  den : IsRef h b q.den
/-- its size in digits -/
structure Sr (k : Nat) (q : Rat) : Prop where
  num : ln 65536 (nu q) ≤ k
  den : ln 65536 q.den ≤ k
end Go.Proofs.YtchcjbbnkcodjaaGreatDoor

/- Contracts of the reference's functions on rational numbers, second part: values, sizes, results. -/
namespace Go.Proofs.YtchcjbbnkcodjaaGreatDoor
open Go Go.Vc Go.Dig

end Go.Proofs.YtchcjbbnkcodjaaGreatDoor

/- Contracts of the reference's functions on rational numbers, third part: the layer's operations on two values. -/
namespace Go.Proofs.YtchcjbbnkcodjaaGreatDoor
open Go Go.Vc Go.Dig

end Go.Proofs.YtchcjbbnkcodjaaGreatDoor

/- Contracts of the statements' own helpers: when two results are the same. -/
namespace Go.Dig
/-- the denominator as it is written -/
def dn (q : Rat) : Nat := if q.den = 1 then 0 else q.den
end Go.Dig
namespace Go.Proofs.YtchcjbbnkcodjaaGreatDoor
open Go Go.Vc Go.Dig

theorem dn_le (q : Rat) : dn q ≤ q.den := by unfold dn; split <;> omega
theorem israt_val {h : Heap} {a b : Sl} {q : Rat} (w : IsRat h a b q) (hs : Sz 1073741824 q) : IsVal h a b (dg 4294967296 (nu q)) (dg 4294967296 (dn q)) :=
  ⟨w.num, w.den, dg_lt two_le_B _, dg_lt two_le_B _, by have := hs.num; unfold ln at this; exact this, by
    have h1 := ln_le_of_le (dn_le q)
    have h2 := hs.den
    unfold ln at h1 h2; omega⟩
end Go.Proofs.YtchcjbbnkcodjaaGreatDoor

/- Contracts of the statements' own helpers, second part: None, Is, awake. -/
namespace Go.Proofs.YtchcjbbnkcodjaaGreatDoor
open Go Go.Vc Go.Dig

end Go.Proofs.YtchcjbbnkcodjaaGreatDoor

/- What the statements on sums, differences and middles compute: true. -/
namespace Go.Proofs.YtchcjbbnkcodjaaGreatDoor
open Go Go.Vc Go.Dig

/-- a result: small, and 0 beside an error -/
structure Rok (p : Rat × Int) : Prop where
  sz : Sz 1073741824 p.1
  err : p.2 ≠ 0 → p.1 = 0
theorem sz_zero (k : Nat) : Sz (k + 1) 0 := ⟨by rw [nu_zero, ln_zero]; omega, by rw [show (0 : Rat).den = 1 from rfl, ln_one _ two_le_B]; omega⟩
end Go.Proofs.YtchcjbbnkcodjaaGreatDoor
