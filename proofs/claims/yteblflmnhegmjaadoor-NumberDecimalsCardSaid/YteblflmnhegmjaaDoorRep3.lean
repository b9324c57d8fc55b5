/- How pairs of words read as rational numbers; more rules. -/
import Derived.Test.YteblflmnhegmjaaDoorW6
import Derived.Test.YteblflmnhegmjaaDoorQrat
import Derived.Test.YteblflmnhegmjaaDoorRepA
set_option linter.unusedVariables false
set_option linter.unusedSimpArgs false
namespace Go.Vc
open Go Go.Dig

/-- numerator and denominator of a rational number in lowest terms -/
structure IsFr (h : Heap) (a b : Sl) (q : Rat) : Prop where
  num : IsNat h a (nu q)
  den : IsNat h b q.den
theorem IsFr.mono {h h' : Heap} {a b : Sl} {q : Rat} (w : IsFr h a b q) (hl : h.le h') : IsFr h' a b q := ⟨w.num.mono hl, w.den.mono hl⟩
/-- its size in words -/
structure Sz (k : Nat) (q : Rat) : Prop where
  num : ln 4294967296 (nu q) ≤ k
  den : ln 4294967296 q.den ≤ k
theorem Sz.mono {k l : Nat} {q : Rat} (s : Sz k q) (h : k ≤ l) : Sz l q := ⟨Nat.le_trans s.num h, Nat.le_trans s.den h⟩
theorem IsNat.nil {h : Heap} {s : Sl} (h0 : s.l = 0) : IsNat h s 0 := by unfold IsNat; rw [dg_zero]; exact Ws.nil h0
theorem mm_min (a b : Nat) : mm false (a : Int) (b : Int) = ((min a b : Nat) : Int) := by unfold mm; simp; split <;> omega
theorem mm_max (a b : Nat) : mm true (a : Int) (b : Int) = ((max a b : Nat) : Int) := by unfold mm; simp; split <;> omega
/-- the lowest bit of an int that is not negative -/
theorem BitN.low1 {x : Int} {k : Int → Prop} (n : Nat) (hx : x = n) (hn : n < 9223372036854775808) (hk : k ((n % 2 : Nat) : Int)) : BitN .and .i64 x 1 k := by
  subst hx
  refine ⟨?_⟩
  have e : Vc.bits .and .i64 (n : Int) 1 = n % 2 := by
    have e1 : (BitVec.ofInt 64 (n : Int)).toNat = n := ofInt_nat rfl (by omega)
    have e2 : (BitVec.ofInt 64 1).toNat = 1 := by decide
    show (BitVec.ofInt 64 (n : Int) &&& BitVec.ofInt 64 1).toNat = n % 2
    rw [BitVec.toNat_and, e1, e2, Nat.and_one_is_mod]
  rw [e]
  have : IntKind.i64.wrap ((n % 2 : Nat) : Int) = ((n % 2 : Nat) : Int) := wrap_in _ (by simp [IntKind.min, IntKind.signed, IntKind.bits]; omega) (by simp [IntKind.max, IntKind.signed, IntKind.bits]; omega)
  rw [this]; exact hk
end Go.Vc
