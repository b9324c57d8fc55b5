/- The frame of a law of two values. -/
import Derived.Test.YteblflmnhegmjaaDoorFr2
import Derived.Test.YteblflmnhegmjaaDoorL3
import Derived.Test.YteblflmnhegmjaaDoorCards
import Derived.Test.YteblflmnhegmjaaDoorTie
set_option linter.unusedVariables false
set_option linter.unusedSimpArgs false
namespace Go.Proofs.YteblflmnhegmjaaDoor
open Go Go.Vc Go.Dig Go.ChangeShapes Go.WideShapes Go.ChangeAt Go.RowKit

theorem own : ownKnob Tryd.prog.godebug = none := by kernel_rfl
theorem gTab : Tryd.prog.globalNamed "math/bits.deBruijn32tab" = some Gl.math_bits_deBruijn32tab := by kernel_rfl

/-- the table stands in the world's memory -/
theorem tb_of {W : World} (h : Lib.TabIs Tryd.prog W "math/bits.deBruijn32tab" .u8 (tabL.map fun (n : Nat) => (n : Int))) : Tb (heapOf W) := by
  unfold Lib.TabIs World.var? at h
  rw [gTab] at h
  simp only [Option.bind_some] at h
  split at h
  · rename_i cs T fz hc
    refine ⟨T, fz, ?_⟩
    unfold heapOf
    rw [hc]
    have := Option.some.inj h
    rw [this, List.map_map]
    rfl
  · cases h

/-- nothing of the old world is changed, nothing new is marked -/
theorem kept_of {W W' : World} {h h' : Heap} {L' : Own} (i : Inv W h [] h' L' W') (may : MemPlace → Prop) : W.keptBut W' may := by
  refine ⟨i.os, i.output, fun b hb => ?_⟩
  rw [i.fr b hb (by simp)]
  split <;> simp_all
theorem frozen_of {W W' : World} {h h' : Heap} {L' : Own} (i : Inv W h [] h' L' W') (a : Addr) : W'.frozen? a = W.frozen? a := by
  unfold World.frozen?
  by_cases hb : a.block < W.heap.size
  · rw [i.fr _ hb (by simp)]
  · have h0 : W.heap[a.block]? = none := by simp; omega
    rw [h0]
    cases hc : W'.heap[a.block]? with
    | none => rfl
    | some o =>
      have := i.frz (by simp) _ _ (.inl (by omega)) hc
      cases o with
      | cells c T fz => obtain rfl : fz = (0, 0) := this; simp
      | _ => rfl
theorem cell_of {W W' : World} {h h' : Heap} {L' : Own} (i : Inv W h [] h' L' W') (a : Addr) (v : Value) (hv : W.cell? a = some v) : W'.cell? a = some v := by
  obtain ⟨-, c, T, fz, hc, -⟩ := cell_get hv
  have hb : a.block < W.heap.size := (Array.getElem?_eq_some_iff.1 hc).1
  unfold World.cell? at hv ⊢
  rw [i.fr _ hb (by simp)]
  exact hv

theorem bulk_pos {H : Type} (d : DataW H) : 0 < Rows.uptoBulk d := by
  match d with
  | .lit .nil => simp [Rows.uptoBulk]
  | .lit (.string _) => simp [Rows.uptoBulk]
  | .lit (.bool _) => simp [Rows.uptoBulk]
  | .lit (.int _ _) => simp [Rows.uptoBulk]
  | .lit (.float _ _) => simp [Rows.uptoBulk]
  | .nil => simp [Rows.uptoBulk]
  | .ptr _ => simp [Rows.uptoBulk]
  | .slice _ _ => simp [Rows.uptoBulk]
  | .agg _ => simp [Rows.uptoBulk]
  | .iface _ _ => simp [Rows.uptoBulk]
  | .map _ => simp [Rows.uptoBulk]
  | .held _ => simp [Rows.uptoBulk]
theorem bulk_len {H : Type} : ∀ l : List (DataW H), l.length ≤ Rows.uptoBulkAll l
  | [] => Nat.zero_le _
  | d :: l => by
    have h1 := bulk_pos d
    have h2 := bulk_len l
    simp only [Rows.uptoBulkAll, List.length_cons]
    omega
theorem part_len {H : Type} {l : List Nat} {d : DataW H} (h : Part l d) : l.length ≤ Rows.uptoBulk d := by
  rcases h with ⟨-, rfl⟩ | ⟨el, sp, rfl, h⟩
  · simp
  · have := bulk_len el
    simp only [Rows.uptoBulk]
    omega

set_option maxRecDepth 20000 in
/-- A LAW OF TWO VALUES: what its walk gives, for every argument and every world that holds the table. -/
theorem two_contract (f : FuncId) (fn : Func) (s : ChangeSpec) (laid : List (String × DataW Unit)) (hp : fn.params = #[24, 24]) (hr : fn.resultTypes = #[4]) (hv : s.vars = [])
    (hs : ∀ (H : Type) (d1 d2 : DataW H), s.fn H [d1, d2] = { results := [.lit (.bool true)], args := [d1, d2] })
    (htab : ∀ W, laidMetH Tryd.prog laid W → Tb (heapOf W))
    (law : ∀ (h : Heap) (n1 : Bool) (a1 b1 : Sl) (l1 m1 : List Nat) (n2 : Bool) (a2 b2 : Sl) (l2 m2 : List Nat), Tb h → IsVal h a1 b1 l1 m1 → IsVal h a2 b2 l2 m2 →
      Fn0 T f [.agg #[.bool n1, a1.val, b1.val], .agg #[.bool n2, a2.val, b2.val]] h fun v _ => v = .bool true)
    (H : Type) (enc : TypeId × Value → H) (W : World) (base : Nat) (args : Array Value) (ds gs : List (DataW H)) (before : List MemPlace)
    (hval : ∀ (j : Nat) t v, fn.params[j]? = some t → args[j]? = some v → Value.okWide Tryd.prog W .any base t v)
    (hW : DataW.Whole enc Tryd.prog fn.params.toList s.vars false W args.toList ds gs before) (hk : Rows.uptoSmall H (ds ++ gs) = true) (hL : laidMetH Tryd.prog laid W) :
    Calls Tryd.prog f args W fun e W' => ∃ v, e = .returned v ∧ s.post enc Tryd.prog fn false true false false W args v W' := by
  have hW' := hW
  obtain ⟨p, q, hA0, hV, rfl, hfz, hnd⟩ := hW
  have hA : DataW.TrodAll enc Tryd.prog W 0 (fun _ => true) true fn.params.toList args.toList ds p := hA0
  rw [hp] at hA hval
  obtain ⟨v0, vs0, d0, ds0, p0, q0, hargs, rfl, rfl, h0, r0⟩ := trodAll_cons hA
  obtain ⟨v1, vs1, d1, ds1, p1, q1, rfl, rfl, rfl, h1, r1⟩ := trodAll_cons r0
  obtain ⟨rfl, rfl, rfl⟩ := trodAll_nil r1
  obtain rfl : args = #[v0, v1] := by rw [← Array.toArray_toList (xs := args), hargs]
  rw [hv] at hV
  obtain ⟨rfl, rfl⟩ := trodVars_none hV
  have ag : ∀ v, Value.okWide Tryd.prog W .any base 24 v → ∃ cs, v = .agg cs := fun v h => by
    unfold Value.okWide at h
    rw [Tryd.underlying24] at h
    obtain ⟨cs, h, -⟩ := h
    exact ⟨cs, h⟩
  obtain ⟨n1, a1, b1, l1, m1, dn1, dm1, rfl, wa1, wb1, ba1, bb1, rfl, pa1, pb1, again1⟩ := open_rat (base := base) (ag _ (hval 0 24 v0 rfl rfl)) h0
  obtain ⟨n2, a2, b2, l2, m2, dn2, dm2, rfl, wa2, wb2, ba2, bb2, rfl, pa2, pb2, again2⟩ := open_rat (base := base) (ag _ (hval 1 24 v1 rfl rfl)) h1
  have hb : Rows.uptoBulkAll _ ≤ 1048576 := of_decide_eq_true hk
  simp only [List.cons_append, List.nil_append, Rows.uptoBulkAll, Rows.uptoBulk] at hb
  have e1 := part_len pa1
  have e2 := part_len pb1
  have e3 := part_len pa2
  have e4 := part_len pb2
  have iv1 : IsVal (heapOf W) a1 b1 l1 m1 := ⟨wa1, wb1, ba1, bb1, by omega, by omega⟩
  have iv2 : IsVal (heapOf W) a2 b2 l2 m2 := ⟨wa2, wb2, ba2, bb2, by omega, by omega⟩
  refine ((law _ n1 a1 b1 l1 m1 n2 a2 b2 l2 m2 (htab W hL) iv1 iv2).out W (heapOf_sat W)).mono fun e W' he => ?_
  cases e with
  | returned v =>
    obtain ⟨h', L', i, -, rfl⟩ := he
    refine ⟨_, rfl, ?_⟩
    have key : ∀ sp : Nat → Bool, (∀ p ∈ p0 ++ (p1 ++ []) ++ [], sp p.block = true) → DataW.TrodAll enc Tryd.prog W' 0 sp true [24, 24] [.agg #[.bool n1, a1.val, b1.val], .agg #[.bool n2, a2.val, b2.val]] [.agg [.lit (.bool n1), dn1, dm1], .agg [.lit (.bool n2), dn2, dm2]] (p0 ++ (p1 ++ [])) := fun sp hsp =>
      trodAll_cons_mk (again1 W' sp (cell_of i) (fun q hq => hsp q (by simp [hq]))) (trodAll_cons_mk (again2 W' sp (cell_of i) (fun q hq => hsp q (by simp [hq]))) trodAll_mk0)
    refine post_of_same (pa := p0 ++ (p1 ++ [])) (pv := []) hW' (fun _ _ _ => ?_) (fun sp hsp => ?_) (fun _ _ => ?_) rfl (kept_of i _) (frozen_of i) (ok_one hr rfl (okWide_bool_mk Tryd.underlying4 _))
    · rw [hr]
      simp only [List.append_nil, hs]
      exact trodAll_cons_mk (shut_bool Tryd.underlying4 _) trodAll_mk0
    · rw [hp]
      simp only [List.append_nil, hs]
      simpa using key sp (by simpa using hsp)
    · rw [hv]
      simp only [List.append_nil, hs]
      rfl
  | panicked _ => exact he.elim
  | outgrown => exact he.elim
end Go.Proofs.YteblflmnhegmjaaDoor
