/- Numbers that a value denotes: comparison, signs, rounding. -/
import Derived.Test.YteblflmnhegmjaaDoorU1
import Derived.Test.YteblflmnhegmjaaDoorQrat
import Derived.Test.YteblflmnhegmjaaDoorN3
set_option linter.unusedVariables false
set_option linter.unusedSimpArgs false
namespace Go.Proofs.YteblflmnhegmjaaDoor
open Go Go.Vc Go.Dig
def cmpR : Option Rat → Option Rat → Int × Int
  | some x, some y => (cmpQ x y, 0)
  | _, _ => (0, 1)
theorem cmpR_val (n1 : Bool) (l1 m1 : List Nat) (n2 : Bool) (l2 m2 : List Nat) : specCmp n1 l1 m1 n2 l2 m2 = cmpR (valOf n1 l1 m1) (valOf n2 l2 m2) := by
  unfold specCmp valOf
  by_cases h1 : okR n1 l1 m1 <;> by_cases h2 : okR n2 l2 m2 <;> simp [h1, h2, cmpR]
theorem CompareN (h : Heap) (n1 : Bool) (a1 b1 : Sl) (n2 : Bool) (a2 b2 : Sl) (x y : Option Rat) (tb : Tb h) (hx : IsNum h n1 a1 b1 x) (hy : IsNum h n2 a2 b2 y) :
    Fn0 T F.number_Compare [.agg #[.bool n1, a1.val, b1.val], .agg #[.bool n2, a2.val, b2.val]] h fun v _ => v = .tuple #[.int .i64 (cmpR x y).1, .int .i64 (cmpR x y).2] := by
  obtain ⟨l1, m1, v1, rfl⟩ := hx.ex
  obtain ⟨l2, m2, v2, rfl⟩ := hy.ex
  rw [← cmpR_val]
  exact NCompare_ct h tb n1 a1 b1 l1 m1 n2 a2 b2 l2 m2 v1 v2
def signR : Option Rat → Int × Int
  | some x => (signQ x, 0)
  | none => (0, 1)
theorem signR_val (n1 : Bool) (l1 m1 : List Nat) : specSign n1 l1 m1 = signR (valOf n1 l1 m1) := by
  unfold specSign valOf
  by_cases h1 : okR n1 l1 m1 <;> simp [h1, signR]
theorem SignN (h : Heap) (n1 : Bool) (a1 b1 : Sl) (x : Option Rat) (tb : Tb h) (hx : IsNum h n1 a1 b1 x) :
    Fn0 T F.number_Sign [.agg #[.bool n1, a1.val, b1.val]] h fun v _ => v = .tuple #[.int .i64 (signR x).1, .int .i64 (signR x).2] := by
  obtain ⟨l1, m1, v1, rfl⟩ := hx.ex
  rw [← signR_val]
  exact NSign_ct h tb n1 a1 b1 l1 m1 v1
def gridR (up : Bool) : Option Rat → Int → Rat × Int
  | some q, p => if p < 0 ∨ 256 < p then (0, 2) else outR (gridQ q p.toNat up)
  | none, _ => (0, 1)
theorem gridR_val (up : Bool) (n1 : Bool) (l1 m1 : List Nat) (p : Int) : specGrid up n1 l1 m1 p = gridR up (valOf n1 l1 m1) p := by
  unfold specGrid valOf
  by_cases h1 : okR n1 l1 m1 <;> simp [h1, gridR]
theorem Fok.gridR (up : Bool) (x : Option Rat) (p : Int) : Fok (gridR up x p) := by
  cases x with
  | none => exact Fok.err1 1
  | some a =>
    show Fok (if p < 0 ∨ 256 < p then (0, 2) else outR (gridQ a p.toNat up))
    by_cases hb : p < 0 ∨ 256 < p
    · rw [if_pos hb]; exact Fok.err1 2
    · rw [if_neg hb]; exact Fok.out _
theorem DownN (h : Heap) (n1 : Bool) (a1 b1 : Sl) (x : Option Rat) (p : Int) (tb : Tb h) (hx : IsNum h n1 a1 b1 x) :
    Fn0 T F.number_Down [.agg #[.bool n1, a1.val, b1.val], .int .i64 p] h fun v h' => ResN h' v (gridR false x p) := by
  obtain ⟨l1, m1, v1, rfl⟩ := hx.ex
  rw [← gridR_val]
  exact (NDown_ct h tb n1 a1 b1 l1 m1 v1 p).mono fun v h' _ r => r.isn (by rw [gridR_val]; exact Fok.gridR _ _ _)
theorem UpN (h : Heap) (n1 : Bool) (a1 b1 : Sl) (x : Option Rat) (p : Int) (tb : Tb h) (hx : IsNum h n1 a1 b1 x) :
    Fn0 T F.number_Up [.agg #[.bool n1, a1.val, b1.val], .int .i64 p] h fun v h' => ResN h' v (gridR true x p) := by
  obtain ⟨l1, m1, v1, rfl⟩ := hx.ex
  rw [← gridR_val]
  exact (NUp_ct h tb n1 a1 b1 l1 m1 v1 p).mono fun v h' _ r => r.isn (by rw [gridR_val]; exact Fok.gridR _ _ _)
end Go.Proofs.YteblflmnhegmjaaDoor
