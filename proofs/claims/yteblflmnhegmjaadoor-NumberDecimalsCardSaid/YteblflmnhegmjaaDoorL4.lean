/- What the statements on products, quotients, whole parts, the grid, powers, canonical values, bits, comparisons and ints compute: true. -/
import Derived.Test.YteblflmnhegmjaaDoorL3
import Derived.Test.YteblflmnhegmjaaDoorQ5
set_option linter.unusedVariables false
set_option linter.unusedSimpArgs false
namespace Go.Proofs.YteblflmnhegmjaaDoor
open Go Go.Vc Go.Dig

theorem Rok.spec1 (op : Rat → Rat) (n1 : Bool) (l1 m1 : List Nat) : Rok (Proofs.YteblflmnhegmjaaDoor.spec1 op n1 l1 m1) := by
  unfold Proofs.YteblflmnhegmjaaDoor.spec1
  split
  · exact Rok.out _
  · exact Rok.err1 1
theorem Rok.specDiv (n1 : Bool) (l1 m1 : List Nat) (n2 : Bool) (l2 m2 : List Nat) : Rok (Proofs.YteblflmnhegmjaaDoor.specDiv n1 l1 m1 n2 l2 m2) := by
  unfold Proofs.YteblflmnhegmjaaDoor.specDiv
  split
  · split
    · exact Rok.err1 10
    · exact Rok.out _
  · exact Rok.err1 1
theorem Rok.specGrid (up : Bool) (n1 : Bool) (l1 m1 : List Nat) (p : Int) : Rok (Proofs.YteblflmnhegmjaaDoor.specGrid up n1 l1 m1 p) := by
  unfold Proofs.YteblflmnhegmjaaDoor.specGrid
  split
  · split
    · exact Rok.err1 2
    · exact Rok.out _
  · exact Rok.err1 1
theorem Rok.specPow (n1 : Bool) (l1 m1 : List Nat) (n : Int) : Rok (Proofs.YteblflmnhegmjaaDoor.specPow n1 l1 m1 n) := by
  unfold Proofs.YteblflmnhegmjaaDoor.specPow
  split
  · split
    · exact Rok.err1 2
    · split
      · exact Rok.err1 10
      · exact Rok.out _
  · exact Rok.err1 1
theorem Res.two {h : Heap} {v : Value} {q : Rat} {e : Int} (r : Res h v (q, e)) : ∃ a b : Sl, v = .tuple #[.agg #[.bool (sg q), a.val, b.val], .int .i64 e] ∧ IsRat h a b q := r
theorem okR.out {n : Bool} {l m : List Nat} (h : okR n l m) : outR (ratOf n l m) = (ratOf n l m, 0) := if_pos h.2.2
theorem Large_t (h : Heap) (neg : Bool) (a b : Sl) (l m : List Nat) (hk : okR neg l m) (hv : IsVal h a b l m) : Fn0 T F.ref01_Large [.agg #[.bool neg, a.val, b.val]] h fun v _ => v = .bool false :=
  (Large_ct h neg a b l m hv).mono fun v h' _ r => by rw [r, dec_true hk] <;> rfl
theorem Large_f (h : Heap) (neg : Bool) (a b : Sl) (l m : List Nat) (hk : ¬ okR neg l m) (hv : IsVal h a b l m) : Fn0 T F.ref01_Large [.agg #[.bool neg, a.val, b.val]] h fun v _ => v = .bool true :=
  (Large_ct h neg a b l m hv).mono fun v h' _ r => by rw [r, dec_false hk] <;> rfl
theorem None_z (h : Heap) (a b : Sl) (q : Rat) (h0 : q = 0) (hq : IsRat h a b q) : Fn0 T F.law01_None [.agg #[.bool (sg q), a.val, b.val]] h fun v h' => h' = h ∧ v = .bool true := by
  subst h0; exact None_ct h a b hq
theorem Equal_self (h : Heap) (a b c d : Sl) (q : Rat) (hq : IsRat h a b q) (hr : IsRat h c d q) (hs : Sz 1073741824 q) : Fn0 T F.ref01_Equal [.agg #[.bool (sg q), a.val, b.val], .agg #[.bool (sg q), c.val, d.val]] h fun v _ => v = .bool true :=
  (Equal_ct h a b c d q q hq hr hs hs).mono fun v h' _ r => by rw [r, dec_true rfl]

end Go.Proofs.YteblflmnhegmjaaDoor
