/- A rational value that comes in, opened; and what is left of it. -/
import Derived.Test.YteblflmnhegmjaaDoorFr1
import Derived.Test.YteblflmnhegmjaaDoorW9
import Derived.OpenShut
import Derived.Lib.LaidTab
import Derived.Deep.DeepHandedRow
set_option linter.unusedVariables false
set_option linter.unusedSimpArgs false
namespace Go.Proofs.YteblflmnhegmjaaDoor
open Go Go.Vc Go.Dig Go.ChangeShapes Go.WideShapes Go.ChangeAt Go.RowKit

theorem cells24 : Tryd.prog.cellsOf 24 = 3 := by kernel_rfl
theorem cells22 : Tryd.prog.cellsOf 22 = 1 := by kernel_rfl
theorem cells63 : Tryd.prog.cellsOf 78 = 1 := by kernel_rfl
theorem cells4 : Tryd.prog.cellsOf 4 = 1 := by kernel_rfl

section
variable {H : Type} {enc : TypeId × Value → H} {w : World}

/-- what was read of a slice of words -/
def Part (l : List Nat) (d : DataW H) : Prop := d = .nil ∧ l = [] ∨ ∃ el sp, d = .slice el sp ∧ el.length = l.length

set_option maxRecDepth 20000 in
theorem open_rat {base : Nat} {t : Bool} {v : Value} {d : DataW H} {p : List MemPlace} (hval : ∃ cs, v = .agg cs) (h : DataW.Trod enc Tryd.prog w 0 (fun _ => true) t 24 v d p) :
    ∃ (n : Bool) (a b : Sl) (l m : List Nat) (dn dm : DataW H), v = .agg #[.bool n, a.val, b.val] ∧ Ws .u32 (heapOf w) a l ∧ Ws .u32 (heapOf w) b m ∧ (∀ x ∈ l, x < 4294967296) ∧ (∀ x ∈ m, x < 4294967296) ∧
      d = .agg [.lit (.bool n), dn, dm] ∧ Part l dn ∧ Part m dm ∧
      ∀ (W' : World) (sp' : Nat → Bool), (∀ a v, w.cell? a = some v → W'.cell? a = some v) → (∀ q ∈ p, sp' q.block = true) → DataW.Trod enc Tryd.prog W' 0 sp' t 24 v d p := by
  obtain ⟨cs, rfl⟩ := hval
  obtain ⟨fuel, h⟩ := h
  obtain ⟨xs, n, rfl, hx, hlen, hxs, hf⟩ := DataW.trod_struct Tryd.underlying24 h
  simp only [Value.cells] at hlen hf h
  rw [cells24] at hlen
  match xs, hxs with
  | [y0, y1, y2], _ =>
    obtain ⟨c0, c1, c2, hcs⟩ : ∃ c0 c1 c2, cs.toList = [c0, c1, c2] := by
      match hc : cs.toList, hlen with
      | [c0, c1, c2], _ => exact ⟨c0, c1, c2, rfl⟩
    have hcs' : cs = #[c0, c1, c2] := by rw [← Array.toArray_toList (xs := cs), hcs]
    subst hcs'
    have f0 : DataW.trod enc Tryd.prog w 0 (fun _ => true) t n 4 ([c0, c1, c2].take (Tryd.prog.cellsOf 4)) = some y0 := hf 0 _ rfl
    have f1 : DataW.trod enc Tryd.prog w 0 (fun _ => true) t n 22 ([c1, c2].take (Tryd.prog.cellsOf 22)) = some y1 := hf 1 _ rfl
    have f2 : DataW.trod enc Tryd.prog w 0 (fun _ => true) t n 22 ([c2].take (Tryd.prog.cellsOf 22)) = some y2 := hf 2 _ rfl
    clear hf h
    rw [cells4] at f0
    rw [cells22] at f1 f2
    change DataW.trod enc Tryd.prog w 0 (fun _ => true) t n 4 [c0] = some y0 at f0
    change DataW.trod enc Tryd.prog w 0 (fun _ => true) t n 22 [c1] = some y1 at f1
    change DataW.trod enc Tryd.prog w 0 (fun _ => true) t n 22 [c2] = some y2 at f2
    obtain ⟨bn, e0, hy0⟩ := DataW.trod_bool Tryd.underlying4 f0
    obtain ⟨s1, l1, e1, w1, b1, p1, r1⟩ := open_words Tryd.underlying22 Tryd.underlying78 cells63 f1
    obtain ⟨s2, l2, e2, w2, b2, p2, r2⟩ := open_words Tryd.underlying22 Tryd.underlying78 cells63 f2
    obtain rfl : c0 = .bool bn := (List.cons.inj e0).1
    obtain rfl : c1 = s1.val := (List.cons.inj e1).1
    obtain rfl : c2 = s2.val := (List.cons.inj e2).1
    subst hy0
    simp at hx
    obtain ⟨rfl, rfl⟩ := hx
    refine ⟨bn, s1, s2, l1, l2, y1.1, y2.1, rfl, w1, w2, b1, b2, rfl, p1, p2, fun W' sp' hk hs => ⟨3, ?_⟩⟩
    have q1 := r1 W' sp' hk (fun q hq => hs q (by simp [hq])) 0
    have q2 := r2 W' sp' hk (fun q hq => hs q (by simp [hq])) 0
    have := trod_struct_mk (enc := enc) (P := Tryd.prog) (w := W') (base := 0) (spare := sp') (held := t) (n := 2) (cs := [.bool bn, s1.val, s2.val]) (xs := [(.lit (.bool bn), []), y1, y2]) Tryd.underlying24 (by rw [cells24]; rfl) (by
      have q0 : DataW.trod enc Tryd.prog W' 0 sp' t 2 4 [.bool bn] = some (.lit (.bool bn), []) := by rw [DataW.trod_step]; simp [DataW.trodStep, Tryd.underlying4]
      simp [cells4, cells22]
      simp at q0 q1 q2
      simp [q0, q1, q2])
    simp only [List.map_cons, List.map_nil, List.flatMap_cons, List.flatMap_nil, List.nil_append, List.append_nil] at this ⊢
    exact this
end
end Go.Proofs.YteblflmnhegmjaaDoor
