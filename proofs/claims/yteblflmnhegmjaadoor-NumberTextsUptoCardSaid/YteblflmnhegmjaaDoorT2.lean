/- Texts: the reference's decimal digits of a number. -/
import Derived.Test.YteblflmnhegmjaaDoorT1
import Derived.Test.YteblflmnhegmjaaDoorR3
import Derived.Test.YteblflmnhegmjaaDoorR6
set_option linter.unusedVariables false
set_option linter.unusedSimpArgs false
namespace Go.Proofs.YteblflmnhegmjaaDoor
open Go Go.Vc Go.Dig

theorem getD_map48 {ds : List Nat} {j : Nat} (hj : j < ds.length) : (ds.map (48 + ·)).getD j 0 = 48 + ds.getD j 0 := by
  simp [List.getD_eq_getElem?_getD, hj]
theorem drop_snoc {l : List Nat} {k : Nat} (h0 : 0 < k) (hk : k ≤ l.length) : (l.drop (k - 1)).reverse = (l.drop k).reverse ++ [l.getD (k - 1) 0] := by
  have h : k - 1 < l.length := by omega
  rw [List.drop_eq_getElem_cons h, List.reverse_cons, show k - 1 + 1 = k by omega]
  simp [List.getD_eq_getElem?_getD, h]
end Go.Proofs.YteblflmnhegmjaaDoor
