/- How a value that comes in is read by the statements' form: a struct of a bool and two slices of words. -/
import Derived.Test.YtdemgbmndijkkaaGreatDoorW2
import Derived.WalkKit
import Derived.ProofKit
import Derived.ChangeSlices
import Derived.ChangeSame
import Derived.RowKit
import Derived.Test.YtdemgbmndijkkaaGreatDoorW10
import Derived.OpenShut
import Derived.Lib.LaidTab
import Derived.Deep.DeepHandedRow
import Derived.Test.YtdemgbmndijkkaaGreatDoorL3
import Derived.Test.YtdemgbmndijkkaaGreatDoorCards
import Derived.Test.YtdemgbmndijkkaaGreatDoorTie
import Derived.ChangeMaps5
set_option linter.unusedVariables false
set_option linter.unusedSimpArgs false
namespace Go.Proofs.YtdemgbmndijkkaaGreatDoor
open Go Go.Vc Go.Dig Go.ChangeShapes Go.WideShapes Go.ChangeAt Go.RowKit

/-- all of a world's memory, that nobody writes any more -/
def heapOf (w : World) : Heap := fun b => w.heap[b]?
theorem heapOf_sat (w : World) : Sat (heapOf w) [] w := ⟨fun _ _ h => h, fun _ h => (by cases h), fun _ h => (by cases h), (by simp)⟩

theorem add_none (b off i : Nat) : Addr.add ⟨b, off, none⟩ i = ⟨b, off + i, none⟩ := by
  unfold Addr.add; split <;> simp_all
theorem cell_get {w : World} {a : Addr} {v : Value} (h : w.cell? a = some v) : a.spot = none ∧ ∃ c T fz, w.heap[a.block]? = some (.cells c T fz) ∧ c[a.off]? = some v := by
  unfold World.cell? at h
  split at h
  · rename_i c T fz hc
    split at h
    · cases h
    · rename_i hn
      exact ⟨by cases hs : a.spot <;> simp_all, c, T, fz, hc, h⟩
  · cases h

section
variable {H : Type} {enc : TypeId × Value → H} {P : Program} {w : World} {base : Nat} {spare : Nat → Bool} {held : Bool}

/-- a slice of words that was read: its head and what stands in it -/
theorem open_words {t e : TypeId} {fuel : Nat} {cs : List Value} {x : DataW H × List MemPlace} (ht : P.underlying t = some (.slice e)) (he : P.underlying e = some (.int .u32)) (hc : P.cellsOf e = 1)
    (h : DataW.trod enc P w base (fun _ => true) held fuel t cs = some x) :
    ∃ (s : Sl) (l : List Nat), cs = [s.val] ∧ Ws .u32 (heapOf w) s l ∧ (∀ y ∈ l, y < 4294967296) ∧ (x.1 = .nil ∧ l = [] ∨ ∃ el sp, x.1 = .slice el sp ∧ el.length = l.length) ∧
      ∀ (W' : World) (sp' : Nat → Bool), (∀ a v, w.cell? a = some v → W'.cell? a = some v) → (∀ p ∈ x.2, sp' p.block = true) → ∀ m, DataW.trod enc P W' base sp' held (m + 2) t cs = some x := by
  rcases open_ints ht he hc h with ⟨rfl, rfl⟩ | ⟨a, len, cap, zs, rfl, hba, hlc, hcm, hzl, rfl, hcell, hwf⟩
  · exact ⟨⟨none, 0, 0⟩, [], rfl, Ws.nil rfl, by simp, .inl ⟨rfl, rfl⟩, fun W' sp' _ _ m => by rw [DataW.trod_step]; simp [DataW.trodStep, ht]⟩
  · have hle : len ≤ zs.length := by rw [hzl]; split <;> omega
    have hb : ∀ i, i < zs.length → 0 ≤ zs.getD i 0 ∧ zs.getD i 0 < 4294967296 := fun i hi => by
      have := hwf (zs.getD i 0) (by simp [List.getD_eq_getElem?_getD, hi])
      simp only [Lit.wf, Bool.and_eq_true, decide_eq_true_eq] at this
      rw [show IntKind.min .u32 = 0 from rfl, show IntKind.max .u32 = 4294967295 from rfl] at this
      omega
    refine ⟨⟨some a, len, cap⟩, (zs.take len).map Int.toNat, rfl, ⟨by simp; omega, hlc, fun hne => ?_⟩, fun y hy => ?_, .inr ⟨_, _, rfl, ?_⟩, fun W' sp' hkeep hsp m => ?_⟩
    · have hpos : 0 < len := by
        rcases Nat.eq_zero_or_pos len with h0 | h0
        · subst h0; simp at hne
        · exact h0
      have hz : ∀ i, i < zs.length → zs.getD i 0 = (((zs.getD i 0).toNat : Nat) : Int) := fun i hi => by have := hb i hi; omega
      obtain ⟨b, off, spot⟩ := a
      have h0 := hcell 0 (by omega)
      rw [show Addr.add ⟨b, off, spot⟩ 0 = ⟨b, off, spot⟩ from rfl] at h0
      obtain ⟨hs, c, T, fz, hc, -⟩ := cell_get h0
      change spot = none at hs
      subst hs
      refine ⟨b, off, c, T, fz, rfl, hc, fun i hi => ?_⟩
      simp only [List.length_map, List.length_take] at hi
      have h1 := hcell i (by omega)
      rw [add_none] at h1
      obtain ⟨-, c', T', fz', hc', h2⟩ := cell_get h1
      rw [hc] at hc'
      cases hc'
      rw [h2]
      have e := hz i (by omega)
      have e2 : ((zs.take len).map Int.toNat).getD i 0 = (zs.getD i 0).toNat := by
        rw [List.getD_eq_getElem?_getD, List.getElem?_map, List.getElem?_take, if_pos (by omega), List.getD_eq_getElem?_getD, List.getElem?_eq_getElem (by omega)]
        rfl
      rw [e2, ← e]
    · obtain ⟨z, hz, rfl⟩ := List.mem_map.1 hy
      obtain ⟨i, hi, rfl⟩ := List.getElem_of_mem hz
      simp only [List.length_take] at hi
      have := hb i (by omega)
      rw [List.getD_eq_getElem?_getD, List.getElem?_eq_getElem (by omega), Option.getD_some] at this
      rw [List.getElem_take]
      omega
    · simp [lits]
    · refine shut_ints m ht he hc hba hlc hcm ?_ (fun i hi => hkeep _ _ (hcell i hi)) hwf
      rw [if_pos rfl] at hzl
      rcases Nat.eq_zero_or_pos cap with h0 | h0
      · split <;> omega
      · have := hsp (.cell a.block a.off) (by
          obtain ⟨n, hn⟩ : ∃ n, zs.length = n + 1 := ⟨zs.length - 1, by omega⟩
          rw [hn]
          simp [MemPlace.row, List.range_succ_eq_map])
        rw [show sp' a.block = true from this, if_pos rfl, hzl]
end
end Go.Proofs.YtdemgbmndijkkaaGreatDoor
/- A rational value that comes in, opened; and what is left of it. -/
namespace Go.Proofs.YtdemgbmndijkkaaGreatDoor
open Go Go.Vc Go.Dig Go.ChangeShapes Go.WideShapes Go.ChangeAt Go.RowKit

theorem cells24 : Tryz.prog.cellsOf 24 = 3 := by kernel_rfl
theorem cells22 : Tryz.prog.cellsOf 22 = 1 := by kernel_rfl
theorem cells63 : Tryz.prog.cellsOf 56 = 1 := by kernel_rfl
theorem cells4 : Tryz.prog.cellsOf 4 = 1 := by kernel_rfl

section
variable {H : Type} {enc : TypeId × Value → H} {w : World}

/-- what was read of a slice of words -/
def Part (l : List Nat) (d : DataW H) : Prop := d = .nil ∧ l = [] ∨ ∃ el sp, d = .slice el sp ∧ el.length = l.length

set_option maxRecDepth 20000 in
theorem open_rat {base : Nat} {t : Bool} {v : Value} {d : DataW H} {p : List MemPlace} (hval : ∃ cs, v = .agg cs) (h : DataW.Trod enc Tryz.prog w 0 (fun _ => true) t 24 v d p) :
    ∃ (n : Bool) (a b : Sl) (l m : List Nat) (dn dm : DataW H), v = .agg #[.bool n, a.val, b.val] ∧ Ws .u32 (heapOf w) a l ∧ Ws .u32 (heapOf w) b m ∧ (∀ x ∈ l, x < 4294967296) ∧ (∀ x ∈ m, x < 4294967296) ∧
      d = .agg [.lit (.bool n), dn, dm] ∧ Part l dn ∧ Part m dm ∧
      ∀ (W' : World) (sp' : Nat → Bool), (∀ a v, w.cell? a = some v → W'.cell? a = some v) → (∀ q ∈ p, sp' q.block = true) → DataW.Trod enc Tryz.prog W' 0 sp' t 24 v d p := by
  obtain ⟨cs, rfl⟩ := hval
  obtain ⟨fuel, h⟩ := h
  obtain ⟨xs, n, rfl, hx, hlen, hxs, hf⟩ := DataW.trod_struct Tryz.underlying24 h
  simp only [Value.cells] at hlen hf h
  rw [cells24] at hlen
  match xs, hxs with
  | [y0, y1, y2], _ =>
    obtain ⟨c0, c1, c2, hcs⟩ : ∃ c0 c1 c2, cs.toList = [c0, c1, c2] := by
      match hc : cs.toList, hlen with
      | [c0, c1, c2], _ => exact ⟨c0, c1, c2, rfl⟩
    have hcs' : cs = #[c0, c1, c2] := by rw [← Array.toArray_toList (xs := cs), hcs]
    subst hcs'
    have f0 : DataW.trod enc Tryz.prog w 0 (fun _ => true) t n 4 ([c0, c1, c2].take (Tryz.prog.cellsOf 4)) = some y0 := hf 0 _ rfl
    have f1 : DataW.trod enc Tryz.prog w 0 (fun _ => true) t n 22 ([c1, c2].take (Tryz.prog.cellsOf 22)) = some y1 := hf 1 _ rfl
    have f2 : DataW.trod enc Tryz.prog w 0 (fun _ => true) t n 22 ([c2].take (Tryz.prog.cellsOf 22)) = some y2 := hf 2 _ rfl
    clear hf h
    rw [cells4] at f0
    rw [cells22] at f1 f2
    change DataW.trod enc Tryz.prog w 0 (fun _ => true) t n 4 [c0] = some y0 at f0
    change DataW.trod enc Tryz.prog w 0 (fun _ => true) t n 22 [c1] = some y1 at f1
    change DataW.trod enc Tryz.prog w 0 (fun _ => true) t n 22 [c2] = some y2 at f2
    obtain ⟨bn, e0, hy0⟩ := DataW.trod_bool Tryz.underlying4 f0
    obtain ⟨s1, l1, e1, w1, b1, p1, r1⟩ := open_words Tryz.underlying22 Tryz.underlying56 cells63 f1
    obtain ⟨s2, l2, e2, w2, b2, p2, r2⟩ := open_words Tryz.underlying22 Tryz.underlying56 cells63 f2
    obtain rfl : c0 = .bool bn := (List.cons.inj e0).1
    obtain rfl : c1 = s1.val := (List.cons.inj e1).1
    obtain rfl : c2 = s2.val := (List.cons.inj e2).1
    subst hy0
    simp at hx
    obtain ⟨rfl, rfl⟩ := hx
    refine ⟨bn, s1, s2, l1, l2, y1.1, y2.1, rfl, w1, w2, b1, b2, rfl, p1, p2, fun W' sp' hk hs => ⟨3, ?_⟩⟩
    have q1 := r1 W' sp' hk (fun q hq => hs q (by simp [hq])) 0
    have q2 := r2 W' sp' hk (fun q hq => hs q (by simp [hq])) 0
    have := trod_struct_mk (enc := enc) (P := Tryz.prog) (w := W') (base := 0) (spare := sp') (held := t) (n := 2) (cs := [.bool bn, s1.val, s2.val]) (xs := [(.lit (.bool bn), []), y1, y2]) Tryz.underlying24 (by rw [cells24]; rfl) (by
      have q0 : DataW.trod enc Tryz.prog W' 0 sp' t 2 4 [.bool bn] = some (.lit (.bool bn), []) := by rw [DataW.trod_step]; simp [DataW.trodStep, Tryz.underlying4]
      simp [cells4, cells22]
      simp at q0 q1 q2
      simp [q0, q1, q2])
    simp only [List.map_cons, List.map_nil, List.flatMap_cons, List.flatMap_nil, List.nil_append, List.append_nil] at this ⊢
    exact this
end
end Go.Proofs.YtdemgbmndijkkaaGreatDoor
/- The frame of a law of two values. -/
namespace Go.Proofs.YtdemgbmndijkkaaGreatDoor
open Go Go.Vc Go.Dig Go.ChangeShapes Go.WideShapes Go.ChangeAt Go.RowKit

theorem own : ownKnob Tryz.prog.godebug = none := by kernel_rfl
theorem gTab : Tryz.prog.globalNamed "math/bits.deBruijn32tab" = some Gl.math_bits_deBruijn32tab := by kernel_rfl

/-- what a call that changes nothing leaves; new memory may be marked -/
theorem post_of_old {H : Type} {enc : TypeId × Value → H} {P : Program} {f : Func} {s : ChangeSpec} {apart fresh handsOn again : Bool} {W W' : World} {args : Array Value} {v : Value} {ds gs : List (DataW H)} {before pa pv : List MemPlace}
    (hW : DataW.Whole enc P f.params.toList s.vars apart W args.toList ds gs before)
    (hres : ∀ (b : Nat) (sp : Nat → Bool) (hd : Bool), DataW.TrodAll enc P W' b sp hd f.resultTypes.toList (v.resultList f.resultTypes.size) (s.fn H (ds ++ gs)).results [])
    (hargs : ∀ sp : Nat → Bool, (∀ p ∈ before, sp p.block = true) → DataW.TrodAll enc P W' 0 sp true f.params.toList args.toList (s.fn H (ds ++ gs)).args pa)
    (hvars : ∀ sp : Nat → Bool, (∀ p ∈ before, sp p.block = true) → DataW.TrodVars enc P W' sp s.vars (s.fn H (ds ++ gs)).vars pv)
    (hps : before = pa ++ pv) (hk : W.keptBut W' (· ∈ before)) (hfz : ∀ a : Addr, a.block < W.heap.size → W'.frozen? a = W.frozen? a)
    (hok : ∀ (j : Nat) (t : TypeId) (r : Value), f.resultTypes[j]? = some t → (v.resultList f.resultTypes.size)[j]? = some r → Value.okWide P W' .any 0 t r) :
    s.post enc P f apart fresh handsOn again W args v W' := by
  have hold : ∀ p ∈ before, (fun b => decide (b < W.heap.size)) p.block = true := fun p hp => by simpa using hW.lt p hp
  have hlt := hW.lt
  refine ⟨ds, gs, before, [], pa, pv, hW, hres _ _ _, hargs _ hold, hvars _ hold, World.keptBut_mono (fun p hp => ⟨hp, ?_⟩) hk, fun _ => ?_⟩
  · rw [hps, List.mem_append] at hp
    exact Or.inr hp
  · obtain ⟨_, _, _, _, _, hz, hn⟩ := hW
    refine ⟨hok, _, _, ([] ++ pa) ++ pv, ⟨[] ++ pa, pv, trodAll_append (hargs _ (fun _ _ => rfl)) (hres _ _ _), hvars _ (fun _ _ => rfl), rfl, ?_, ?_⟩, ?_⟩
    · intro b off hp
      have hb : MemPlace.cell b off ∈ before := by rw [hps]; simpa using hp
      rw [hfz _ (hlt _ hb)]
      exact hz b off hb
    · intro ha
      have := hn ha
      rw [hps] at this
      simpa using this
    · intro p hp _
      rw [hps]
      simpa using hp
/-- the table stands in the world's memory -/
theorem tb_of {W : World} (h : Lib.TabIs Tryz.prog W "math/bits.deBruijn32tab" .u8 (tabL.map fun (n : Nat) => (n : Int))) : Tb (heapOf W) := by
  unfold Lib.TabIs World.var? at h
  rw [gTab] at h
  simp only [Option.bind_some] at h
  split at h
  · rename_i cs T fz hc
    refine ⟨T, fz, ?_⟩
    unfold heapOf
    rw [hc]
    have := Option.some.inj h
    rw [this, List.map_map]
    rfl
  · cases h

/-- nothing of the old world is changed, nothing new is marked -/
theorem kept_of {W W' : World} {h h' : Heap} {L' : Own} (i : Inv W h [] h' L' W') (may : MemPlace → Prop) : W.keptBut W' may := by
  refine ⟨i.os, i.output, fun b hb => ?_⟩
  rw [i.fr b hb (by simp)]
  split <;> simp_all
theorem frozen_of {W W' : World} {h h' : Heap} {L' : Own} (i : Inv W h [] h' L' W') (a : Addr) (hb : a.block < W.heap.size) : W'.frozen? a = W.frozen? a := by
  unfold World.frozen?
  rw [i.fr _ hb (by simp)]
theorem cell_of {W W' : World} {h h' : Heap} {L' : Own} (i : Inv W h [] h' L' W') (a : Addr) (v : Value) (hv : W.cell? a = some v) : W'.cell? a = some v := by
  obtain ⟨-, c, T, fz, hc, -⟩ := cell_get hv
  have hb : a.block < W.heap.size := (Array.getElem?_eq_some_iff.1 hc).1
  unfold World.cell? at hv ⊢
  rw [i.fr _ hb (by simp)]
  exact hv

theorem bulk_pos {H : Type} (d : DataW H) : 0 < Rows.uptoBulk d := by
  match d with
  | .lit .nil => simp [Rows.uptoBulk]
  | .lit (.string _) => simp [Rows.uptoBulk]
  | .lit (.bool _) => simp [Rows.uptoBulk]
  | .lit (.int _ _) => simp [Rows.uptoBulk]
  | .lit (.float _ _) => simp [Rows.uptoBulk]
  | .nil => simp [Rows.uptoBulk]
  | .ptr _ => simp [Rows.uptoBulk]
  | .slice _ _ => simp [Rows.uptoBulk]
  | .agg _ => simp [Rows.uptoBulk]
  | .iface _ _ => simp [Rows.uptoBulk]
  | .map _ => simp [Rows.uptoBulk]
  | .held _ => simp [Rows.uptoBulk]
theorem bulk_len {H : Type} : ∀ l : List (DataW H), l.length ≤ Rows.uptoBulkAll l
  | [] => Nat.zero_le _
  | d :: l => by
    have h1 := bulk_pos d
    have h2 := bulk_len l
    simp only [Rows.uptoBulkAll, List.length_cons]
    omega
theorem part_len {H : Type} {l : List Nat} {d : DataW H} (h : Part l d) : l.length ≤ Rows.uptoBulk d := by
  rcases h with ⟨-, rfl⟩ | ⟨el, sp, rfl, h⟩
  · simp
  · have := bulk_len el
    simp only [Rows.uptoBulk]
    omega

set_option maxRecDepth 20000 in
/-- A LAW OF TWO VALUES: what its walk gives, for every argument and every world that holds the table. -/
theorem two_contract (f : FuncId) (fn : Func) (s : ChangeSpec) (laid : List (String × DataW Unit)) (hp : fn.params = #[24, 24]) (hr : fn.resultTypes = #[4]) (hv : s.vars = [])
    (hs : ∀ (H : Type) (d1 d2 : DataW H), s.fn H [d1, d2] = { results := [.lit (.bool true)], args := [d1, d2] })
    (htab : ∀ W, laidMetH Tryz.prog laid W → Tb (heapOf W))
    (law : ∀ (h : Heap) (n1 : Bool) (a1 b1 : Sl) (l1 m1 : List Nat) (n2 : Bool) (a2 b2 : Sl) (l2 m2 : List Nat), Tb h → IsVal h a1 b1 l1 m1 → IsVal h a2 b2 l2 m2 →
      Fn0 T f [.agg #[.bool n1, a1.val, b1.val], .agg #[.bool n2, a2.val, b2.val]] h fun v _ => v = .bool true)
    (H : Type) (enc : TypeId × Value → H) (W : World) (base : Nat) (args : Array Value) (ds gs : List (DataW H)) (before : List MemPlace)
    (hval : ∀ (j : Nat) t v, fn.params[j]? = some t → args[j]? = some v → Value.okWide Tryz.prog W .any base t v)
    (hW : DataW.Whole enc Tryz.prog fn.params.toList s.vars false W args.toList ds gs before) (hk : Rows.uptoSmall H (ds ++ gs) = true) (hL : laidMetH Tryz.prog laid W) :
    Calls Tryz.prog f args W fun e W' => ∃ v, e = .returned v ∧ s.post enc Tryz.prog fn false true false false W args v W' := by
  have hW' := hW
  obtain ⟨p, q, hA0, hV, rfl, hfz, hnd⟩ := hW
  have hA : DataW.TrodAll enc Tryz.prog W 0 (fun _ => true) true fn.params.toList args.toList ds p := hA0
  rw [hp] at hA hval
  obtain ⟨v0, vs0, d0, ds0, p0, q0, hargs, rfl, rfl, h0, r0⟩ := trodAll_cons hA
  obtain ⟨v1, vs1, d1, ds1, p1, q1, rfl, rfl, rfl, h1, r1⟩ := trodAll_cons r0
  obtain ⟨rfl, rfl, rfl⟩ := trodAll_nil r1
  obtain rfl : args = #[v0, v1] := by rw [← Array.toArray_toList (xs := args), hargs]
  rw [hv] at hV
  obtain ⟨rfl, rfl⟩ := trodVars_none hV
  have ag : ∀ v, Value.okWide Tryz.prog W .any base 24 v → ∃ cs, v = .agg cs := fun v h => by
    unfold Value.okWide at h
    rw [Tryz.underlying24] at h
    obtain ⟨cs, h, -⟩ := h
    exact ⟨cs, h⟩
  obtain ⟨n1, a1, b1, l1, m1, dn1, dm1, rfl, wa1, wb1, ba1, bb1, rfl, pa1, pb1, again1⟩ := open_rat (base := base) (ag _ (hval 0 24 v0 rfl rfl)) h0
  obtain ⟨n2, a2, b2, l2, m2, dn2, dm2, rfl, wa2, wb2, ba2, bb2, rfl, pa2, pb2, again2⟩ := open_rat (base := base) (ag _ (hval 1 24 v1 rfl rfl)) h1
  have hb : Rows.uptoBulkAll _ ≤ 1048576 := of_decide_eq_true hk
  simp only [List.cons_append, List.nil_append, Rows.uptoBulkAll, Rows.uptoBulk] at hb
  have e1 := part_len pa1
  have e2 := part_len pb1
  have e3 := part_len pa2
  have e4 := part_len pb2
  have iv1 : IsVal (heapOf W) a1 b1 l1 m1 := ⟨wa1, wb1, ba1, bb1, by omega, by omega⟩
  have iv2 : IsVal (heapOf W) a2 b2 l2 m2 := ⟨wa2, wb2, ba2, bb2, by omega, by omega⟩
  refine ((law _ n1 a1 b1 l1 m1 n2 a2 b2 l2 m2 (htab W hL) iv1 iv2).out W (heapOf_sat W)).mono fun e W' he => ?_
  cases e with
  | returned v =>
    obtain ⟨h', L', i, -, rfl⟩ := he
    refine ⟨_, rfl, ?_⟩
    have key : ∀ sp : Nat → Bool, (∀ p ∈ p0 ++ (p1 ++ []) ++ [], sp p.block = true) → DataW.TrodAll enc Tryz.prog W' 0 sp true [24, 24] [.agg #[.bool n1, a1.val, b1.val], .agg #[.bool n2, a2.val, b2.val]] [.agg [.lit (.bool n1), dn1, dm1], .agg [.lit (.bool n2), dn2, dm2]] (p0 ++ (p1 ++ [])) := fun sp hsp =>
      trodAll_cons_mk (again1 W' sp (cell_of i) (fun q hq => hsp q (by simp [hq]))) (trodAll_cons_mk (again2 W' sp (cell_of i) (fun q hq => hsp q (by simp [hq]))) trodAll_mk0)
    refine post_of_old (pa := p0 ++ (p1 ++ [])) (pv := []) hW' (fun _ _ _ => ?_) (fun sp hsp => ?_) (fun _ _ => ?_) rfl (kept_of i _) (frozen_of i) (ok_one hr rfl (okWide_bool_mk Tryz.underlying4 _))
    · rw [hr]
      simp only [List.append_nil, hs]
      exact trodAll_cons_mk (shut_bool Tryz.underlying4 _) trodAll_mk0
    · rw [hp]
      simp only [List.append_nil, hs]
      simpa using key sp (by simpa using hsp)
    · rw [hv]
      simp only [List.append_nil, hs]
      rfl
  | panicked _ => exact he.elim
  | outgrown => exact he.elim
end Go.Proofs.YtdemgbmndijkkaaGreatDoor
/- The frame of a law of values and ints; the world of the witness. -/
namespace Go.Proofs.YtdemgbmndijkkaaGreatDoor
open Go Go.Vc Go.Dig Go.ChangeShapes Go.WideShapes Go.ChangeAt Go.RowKit

/-- an argument of a law -/
inductive Arg where
  | rat (n : Bool) (a b : Sl) (l m : List Nat)
  | int (kd : IntKind) (n : Int)
  | str (s : ByteArray)
def Arg.val : Arg → Value
  | .rat n a b _ _ => .agg #[.bool n, a.val, b.val]
  | .int kd n => .int kd n
  | .str s => .string s
def Arg.ok (h : Heap) (t : TypeId) : Arg → Prop
  | .rat _ a b l m => t = 24 ∧ IsVal h a b l m
  | .int kd n => Tryz.prog.underlying t = some (.int kd) ∧ kd.min ≤ n ∧ n ≤ kd.max
  | .str s => Tryz.prog.underlying t = some .string ∧ s.size ≤ maxLen
def oks (h : Heap) : List TypeId → List Arg → Prop
  | [], [] => True
  | t :: ts, x :: xs => x.ok h t ∧ oks h ts xs
  | _, _ => False

theorem ok_rat {h : Heap} {x : Arg} (o : x.ok h 24) : ∃ n a b l m, x = .rat n a b l m ∧ IsVal h a b l m := by
  cases x with
  | rat n a b l m => exact ⟨n, a, b, l, m, rfl, o.2⟩
  | int kd n =>
    have := o.1
    rw [Tryz.underlying24] at this
    cases this
  | str s =>
    have := o.1
    rw [Tryz.underlying24] at this
    cases this
theorem ok_int {h : Heap} {x : Arg} {t : TypeId} {kd : IntKind} (ht : Tryz.prog.underlying t = some (.int kd)) (o : x.ok h t) : ∃ n, x = .int kd n ∧ kd.min ≤ n ∧ n ≤ kd.max := by
  cases x with
  | rat n a b l m =>
    obtain rfl := o.1
    rw [Tryz.underlying24] at ht
    cases ht
  | int kd' n =>
    have := o.1
    rw [ht] at this
    cases this
    exact ⟨n, rfl, o.2⟩
  | str s =>
    have := o.1
    rw [ht] at this
    cases this
theorem ok_str {h : Heap} {x : Arg} {t : TypeId} (ht : Tryz.prog.underlying t = some .string) (o : x.ok h t) : ∃ s, x = .str s ∧ s.size ≤ maxLen := by
  cases x with
  | rat n a b l m =>
    obtain rfl := o.1
    rw [Tryz.underlying24] at ht
    cases ht
  | int kd' n =>
    have := o.1
    rw [ht] at this
    cases this
  | str s => exact ⟨s, rfl, o.2⟩
theorem oks_cons {h : Heap} {t : TypeId} {ts : List TypeId} {xs : List Arg} (o : oks h (t :: ts) xs) : ∃ x ys, xs = x :: ys ∧ x.ok h t ∧ oks h ts ys := by
  cases xs with
  | nil => exact o.elim
  | cons x ys => exact ⟨x, ys, rfl, o.1, o.2⟩
theorem oks_nil {h : Heap} {xs : List Arg} (o : oks h [] xs) : xs = [] := by
  cases xs with
  | nil => rfl
  | cons x ys => exact o.elim

/-- a type that the frame can read -/
def good (t : TypeId) : Prop := (t = 24 ∨ Tryz.prog.underlying t = some .string) ∨ ∃ kd, Tryz.prog.underlying t = some (.int kd)
theorem good24 : good 24 := .inl (.inl rfl)
theorem good3 : good 3 := .inr ⟨_, Tryz.underlying3⟩

section
variable {H : Type} {enc : TypeId × Value → H} {w : World}
set_option maxRecDepth 20000 in
theorem open_arg {base : Nat} {t : TypeId} {held : Bool} {v : Value} {d : DataW H} {p : List MemPlace} (ht : good t) (hval : Value.okWide Tryz.prog w .any base t v)
    (h : DataW.Trod enc Tryz.prog w 0 (fun _ => true) held t v d p) :
    ∃ x : Arg, v = x.val ∧ (Rows.uptoBulk d ≤ 1048576 ∨ t ≠ 24 → x.ok (heapOf w) t) ∧
      ∀ (W' : World) (sp' : Nat → Bool), (∀ a v, w.cell? a = some v → W'.cell? a = some v) → (∀ q ∈ p, sp' q.block = true) → DataW.Trod enc Tryz.prog W' 0 sp' held t v d p := by
  rcases ht with (rfl | ht) | ⟨kd, ht⟩
  · obtain ⟨n1, a1, b1, l1, m1, dn1, dm1, rfl, wa1, wb1, ba1, bb1, rfl, pa1, pb1, again1⟩ := open_rat (base := base) (by
      unfold Value.okWide at hval
      rw [Tryz.underlying24] at hval
      obtain ⟨cs, h, -⟩ := hval
      exact ⟨cs, h⟩) h
    refine ⟨.rat n1 a1 b1 l1 m1, rfl, fun hb => ⟨rfl, ?_⟩, again1⟩
    rcases hb with hb | hb
    · have e1 := part_len pa1
      have e2 := part_len pb1
      simp only [Rows.uptoBulkAll, Rows.uptoBulk] at hb
      exact ⟨wa1, wb1, ba1, bb1, by omega, by omega⟩
    · exact absurd rfl hb
  · obtain ⟨s, rfl, rfl, rfl, hs⟩ := ChangeMaps.open_string ht hval h
    exact ⟨.str s, rfl, fun _ => ⟨ht, hs⟩, fun W' sp' _ _ => ChangeMaps.shut_string ht hs⟩
  · obtain ⟨n, rfl, rfl, rfl, hw⟩ := open_int ht hval h
    refine ⟨.int kd n, rfl, fun _ => ⟨ht, ?_⟩, fun W' sp' _ _ => shut_int ht hw⟩
    simp only [Lit.wf, Bool.and_eq_true, decide_eq_true_eq] at hw
    exact hw

set_option maxRecDepth 20000 in
theorem open_args {base : Nat} {held : Bool} : ∀ {ts : List TypeId} {vs : List Value} {ds : List (DataW H)} {p : List MemPlace}, (∀ t ∈ ts, good t) →
    (∀ (j : Nat) t v, ts[j]? = some t → vs[j]? = some v → Value.okWide Tryz.prog w .any base t v) → DataW.TrodAll enc Tryz.prog w 0 (fun _ => true) held ts vs ds p →
    ∃ xs : List Arg, vs = xs.map Arg.val ∧ ds.length = ts.length ∧ (Rows.uptoBulkAll ds ≤ 1048576 ∨ 24 ∉ ts → oks (heapOf w) ts xs) ∧
      ∀ (W' : World) (sp' : Nat → Bool), (∀ a v, w.cell? a = some v → W'.cell? a = some v) → (∀ q ∈ p, sp' q.block = true) → DataW.TrodAll enc Tryz.prog W' 0 sp' held ts vs ds p
  | [], vs, ds, p, _, _, h => by
    obtain ⟨rfl, rfl, rfl⟩ := trodAll_nil h
    exact ⟨[], rfl, rfl, fun _ => trivial, fun _ _ _ _ => trodAll_mk0⟩
  | t :: ts, vs, ds, p, ht, hval, h => by
    obtain ⟨v0, vs0, d0, ds0, p0, q0, rfl, rfl, rfl, h0, r0⟩ := trodAll_cons h
    obtain ⟨x, rfl, ox, ax⟩ := open_arg (base := base) (ht t (by simp)) (hval 0 t v0 rfl rfl) h0
    obtain ⟨xs, rfl, hlen, oxs, axs⟩ := open_args (base := base) (fun t h => ht t (by simp [h])) (fun j t v h1 h2 => hval (j + 1) t v (by simpa using h1) (by simpa using h2)) r0
    refine ⟨x :: xs, rfl, by simp [hlen], fun hb => ⟨ox ?_, oxs ?_⟩, fun W' sp' hk hs => trodAll_cons_mk (ax W' sp' hk fun q hq => hs q (by simp [hq])) (axs W' sp' hk fun q hq => hs q (by simp [hq]))⟩
    · rcases hb with hb | hb
      · simp only [Rows.uptoBulkAll] at hb; exact .inl (by omega)
      · exact .inr fun e => hb (by simp [e])
    · rcases hb with hb | hb
      · simp only [Rows.uptoBulkAll] at hb; exact .inl (by omega)
      · exact .inr fun e => hb (by simp [e])
end

set_option maxRecDepth 20000 in
/-- A LAW: what its walk gives, for every argument and every world that holds the table. -/
theorem law_contract (f : FuncId) (fn : Func) (s : ChangeSpec) (laid : List (String × DataW Unit)) (ts : List TypeId) (hp : fn.params = ts.toArray) (hg : ∀ t ∈ ts, good t) (hr : fn.resultTypes = #[4]) (hv : s.vars = [])
    (hs : ∀ (H : Type) (ds : List (DataW H)), ds.length = ts.length → s.fn H ds = { results := [.lit (.bool true)], args := ds })
    (htab : ∀ W, laidMetH Tryz.prog laid W → Tb (heapOf W))
    (law : ∀ (h : Heap) (xs : List Arg), Tb h → oks h ts xs → Fn0 T f (xs.map Arg.val) h fun v _ => v = .bool true)
    (H : Type) (enc : TypeId × Value → H) (W : World) (base : Nat) (args : Array Value) (ds gs : List (DataW H)) (before : List MemPlace)
    (hval : ∀ (j : Nat) t v, fn.params[j]? = some t → args[j]? = some v → Value.okWide Tryz.prog W .any base t v)
    (hW : DataW.Whole enc Tryz.prog fn.params.toList s.vars false W args.toList ds gs before) (hk : Rows.uptoBulkAll (ds ++ gs) ≤ 1048576 ∨ 24 ∉ ts) (hL : laidMetH Tryz.prog laid W) :
    Calls Tryz.prog f args W fun e W' => ∃ v, e = .returned v ∧ s.post enc Tryz.prog fn false true false false W args v W' := by
  have hW' := hW
  obtain ⟨p, q, hA0, hV, rfl, hfz, hnd⟩ := hW
  have hA : DataW.TrodAll enc Tryz.prog W 0 (fun _ => true) true fn.params.toList args.toList ds p := hA0
  rw [hp] at hA hval
  rw [hv] at hV
  obtain ⟨rfl, rfl⟩ := trodVars_none hV
  obtain ⟨xs, hargs, hlen, hoks, again⟩ := open_args (base := base) hg (fun j t v h1 h2 => hval j t v (by simpa using h1) (by simpa using h2)) hA
  obtain rfl : args = (xs.map Arg.val).toArray := by rw [← Array.toArray_toList (xs := args), hargs]
  rw [List.append_nil] at hk
  refine ((law _ xs (htab W hL) (hoks hk)).out W (heapOf_sat W)).mono fun e W' he => ?_
  cases e with
  | returned v =>
    obtain ⟨h', L', i, -, rfl⟩ := he
    refine ⟨_, rfl, ?_⟩
    refine post_of_old (pa := p) (pv := []) hW' (fun _ _ _ => ?_) (fun sp hsp => ?_) (fun _ _ => ?_) rfl (kept_of i _) (frozen_of i) (ok_one hr rfl (okWide_bool_mk Tryz.underlying4 _))
    · rw [hr]
      simp only [List.append_nil, hs _ _ hlen]
      exact trodAll_cons_mk (shut_bool Tryz.underlying4 _) trodAll_mk0
    · rw [hp]
      simp only [List.append_nil, hs _ _ hlen]
      simpa using again W' sp (cell_of i) (fun q hq => hsp q (by simpa using hq))
    · rw [hv]
      simp only [List.append_nil, hs _ _ hlen]
      rfl
  | panicked _ => exact he.elim
  | outgrown => exact he.elim

/-- a world for the witness: the settled one, the table (block 0) holding what its initialiser lays -/
noncomputable def laidWorld (os : Os) : World :=
  { World.holding Tryz.prog os ⟨#[], #[], []⟩ with heap := (World.holding Tryz.prog os ⟨#[], #[], []⟩).heap.modify Gl.math_bits_deBruijn32tab fun
      | .cells _ t frozen => .cells (tabL.map (vu .u8)).toArray t frozen
      | o => o }
def zeroRat : Value := .agg #[.bool false, .slice none 0 0, .slice none 0 0]
def zd {H : Type} : DataW H := .agg [.lit (.bool false), .nil, .nil]
theorem gTabType : (Tryz.prog.globals[Gl.math_bits_deBruijn32tab]?).map (·.type) = some 146 := by kernel_rfl
theorem cells110 : Tryz.prog.cellsOf 146 = 32 := by kernel_rfl
theorem cells5 : Tryz.prog.cellsOf 5 = 1 := by kernel_rfl
theorem wants24 : Tryz.prog.wantsStandIn 24 = false := by kernel_rfl
theorem wants3 : Tryz.prog.wantsStandIn 3 = false := by kernel_rfl
end Go.Proofs.YtdemgbmndijkkaaGreatDoor