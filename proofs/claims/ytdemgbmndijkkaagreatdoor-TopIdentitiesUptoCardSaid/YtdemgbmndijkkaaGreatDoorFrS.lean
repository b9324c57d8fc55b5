/- A pair of precisions with two values that comes in, opened. -/
import Derived.Test.YtdemgbmndijkkaaGreatDoorFr4
import Derived.ReadAgain
set_option linter.unusedVariables false
set_option linter.unusedSimpArgs false
namespace Go.Proofs.YtdemgbmndijkkaaGreatDoor
open Go Go.Vc Go.Dig Go.ChangeShapes Go.WideShapes Go.ChangeAt Go.RowKit
theorem cellsRat : Tryz.prog.cellsOf 24 = 3 := by kernel_rfl
theorem cellsInt : Tryz.prog.cellsOf 3 = 1 := by kernel_rfl
theorem cellsTwice : Tryz.prog.cellsOf 26 = 8 := by kernel_rfl
section
variable {H : Type} {enc : TypeId × Value → H} {w : World}
theorem laid_out : laidOutB Tryz.prog = true := by kernel_rfl
theorem maps_rowed : mapsRowed Tryz.prog = true := by kernel_rfl
theorem slices_full : ∀ t e, t < Tryz.prog.types.size → Tryz.prog.underlying t = some (.slice e) → 0 < Tryz.prog.cellsOf e := slices_full_of Tryz.prog (by kernel_rfl)
theorem carry_all {W' : World} {sp : Nat → Bool} : ∀ {ts : List TypeId} {vs : List Value} {ds : List (DataW H)} {ps : List MemPlace}, DataW.TrodAll enc Tryz.prog w 0 sp true ts vs ds ps → (∀ q ∈ ps, w.sameAt W' q) → DataW.TrodAll enc Tryz.prog W' 0 sp true ts vs ds ps
  | [], [], [], _, h, _ => h
  | _ :: _, _ :: _, _ :: _, _, ⟨p, q, ⟨n, h1⟩, h2, e⟩, hs => ⟨p, q, ⟨n, DataW.trod_carry n _ _ _ h1 fun x hx => hs x (by rw [e]; exact List.mem_append_left _ hx)⟩, carry_all h2 fun x hx => hs x (by rw [e]; exact List.mem_append_right _ hx), e⟩
set_option maxRecDepth 20000 in
/-- what was read reads again, in a world that has all old blocks as they were -/
theorem again_all {W' : World} {sp : Nat → Bool} {ts : List TypeId} {vs : List Value} {ds : List (DataW H)} {ps : List MemPlace} (ht : ∀ t ∈ ts, t < Tryz.prog.types.size) (h : DataW.TrodAll enc Tryz.prog w 0 (fun _ => true) true ts vs ds ps)
    (hb : ∀ b, b < w.heap.size → W'.heap[b]? = w.heap[b]?) (hs : ∀ q ∈ ps, sp q.block = true) : DataW.TrodAll enc Tryz.prog W' 0 sp true ts vs ds ps := by
  have hlt := DataW.TrodAll.lt h
  refine carry_all (DataW.TrodAll.respare (kids_rows laid_out maps_rowed) slices_full ht h hs) fun q hq => ?_
  have := hb _ (hlt q hq)
  cases q with
  | cell b off =>
    show World.cell? W' _ = World.cell? w _
    unfold World.cell?
    rw [show W'.heap[(⟨b, off, none⟩ : Addr).block]? = w.heap[(⟨b, off, none⟩ : Addr).block]? from this]
  | map b => exact this
/-- what an argument of a type may be -/
structure In (h : Heap) (t : TypeId) (v : Value) : Prop where
  raw : ∃ (w : World) (H : Type) (enc : TypeId × Value → H) (base : Nat) (d : DataW H) (p : List MemPlace), h = heapOf w ∧ Value.okWide Tryz.prog w .any base t v ∧ DataW.Trod enc Tryz.prog w 0 (fun _ => true) true t v d p ∧ Rows.uptoBulk d ≤ 1048576
set_option maxRecDepth 20000 in
set_option maxHeartbeats 1000000 in
theorem in_of {base : Nat} {t : TypeId} {v : Value} {d : DataW H} {p : List MemPlace} (hval : Value.okWide Tryz.prog w .any base t v) (h : DataW.Trod enc Tryz.prog w 0 (fun _ => true) true t v d p) (hb : Rows.uptoBulk d ≤ 1048576) : In (heapOf w) t v := by
  constructor
  exact ⟨w, H, enc, base, d, p, rfl, hval, h, hb⟩
set_option maxRecDepth 20000 in
theorem ins_of {base : Nat} : ∀ {ts : List TypeId} {vs : List Value} {ds : List (DataW H)} {p : List MemPlace},
    (∀ (j : Nat) t v, ts[j]? = some t → vs[j]? = some v → Value.okWide Tryz.prog w .any base t v) → DataW.TrodAll enc Tryz.prog w 0 (fun _ => true) true ts vs ds p → Rows.uptoBulkAll ds ≤ 1048576 →
    vs.length = ts.length ∧ ds.length = ts.length ∧ ∀ (j : Nat) t v, ts[j]? = some t → vs[j]? = some v → In (heapOf w) t v
  | [], vs, ds, p, _, h, _ => by
    obtain ⟨rfl, rfl, rfl⟩ := trodAll_nil h
    exact ⟨rfl, rfl, fun j t v h => by simp at h⟩
  | t :: ts, vs, ds, p, hval, h, hb => by
    obtain ⟨v0, vs0, d0, ds0, p0, q0, rfl, rfl, rfl, h0, r0⟩ := trodAll_cons h
    rw [Rows.uptoBulkAll] at hb
    have i0 := in_of (hval 0 t v0 rfl rfl) h0 (by omega)
    obtain ⟨l1, l2, is⟩ := ins_of (base := base) (fun j t v h1 h2 => hval (j + 1) t v (by simpa using h1) (by simpa using h2)) r0 (by omega)
    refine ⟨by simp [l1], by simp [l2], fun j u v hu hv => ?_⟩
    cases j with
    | zero =>
      simp at hu hv
      subst hu hv
      exact i0
    | succ j => exact is j u v (by simpa using hu) (by simpa using hv)
end
set_option maxRecDepth 20000 in
/-- A LAW: what its walk gives, for every argument and every world that holds the tables. -/
theorem law_contractS (f : FuncId) (fn : Func) (s : ChangeSpec) (laid : List (String × DataW Unit)) (ts : List TypeId) (hp : fn.params = ts.toArray) (hg : ∀ t ∈ ts, t < Tryz.prog.types.size) (hr : fn.resultTypes = #[4]) (hv : s.vars = [])
    (hs : ∀ (H : Type) (ds : List (DataW H)), ds.length = ts.length → s.fn H ds = { results := [.lit (.bool true)], args := ds })
    (htab : ∀ W, laidMetH Tryz.prog laid W → Tb (heapOf W))
    (law : ∀ (h : Heap) (vs : List Value), Tb h → vs.length = ts.length → (∀ (j : Nat) t v, ts[j]? = some t → vs[j]? = some v → In h t v) → Fn0 T f vs h fun v _ => v = .bool true)
    (H : Type) (enc : TypeId × Value → H) (W : World) (base : Nat) (args : Array Value) (ds gs : List (DataW H)) (before : List MemPlace)
    (hval : ∀ (j : Nat) t v, fn.params[j]? = some t → args[j]? = some v → Value.okWide Tryz.prog W .any base t v)
    (hW : DataW.Whole enc Tryz.prog fn.params.toList s.vars false W args.toList ds gs before) (hk : Rows.uptoBulkAll (ds ++ gs) ≤ 1048576) (hL : laidMetH Tryz.prog laid W) :
    Calls Tryz.prog f args W fun e W' => ∃ v, e = .returned v ∧ s.post enc Tryz.prog fn false true false false W args v W' := by
  obtain ⟨vs, rfl⟩ : ∃ vs : List Value, args = vs.toArray := ⟨args.toList, by simp⟩
  have hW' := hW
  obtain ⟨p, q, hA0, hV, rfl, hfz, hnd⟩ := hW
  have hA : DataW.TrodAll enc Tryz.prog W 0 (fun _ => true) true fn.params.toList vs ds p := hA0
  rw [hp] at hA hval
  rw [hv] at hV
  obtain ⟨rfl, rfl⟩ := trodVars_none hV
  rw [List.append_nil] at hk
  obtain ⟨hlv, hlen, hin⟩ := ins_of (base := base) (fun j t v h1 h2 => hval j t v (by simpa using h1) (by simpa using h2)) hA hk
  have again := fun W' sp h1 h2 => again_all (W' := W') (sp := sp) hg hA h1 h2
  refine ((law _ vs (htab W hL) hlv hin).out W (heapOf_sat W)).mono fun e W' he => ?_
  cases e with
  | returned v =>
    obtain ⟨h', L', i, -, rfl⟩ := he
    refine ⟨_, rfl, ?_⟩
    refine post_of_old (pa := p) (pv := []) hW' (fun _ _ _ => ?_) (fun sp hsp => ?_) (fun _ _ => ?_) rfl (kept_of i _) (frozen_of i) (ok_one hr rfl (okWide_bool_mk Tryz.underlying4 _))
    · rw [hr]
      simp only [List.append_nil, hs _ _ hlen]
      exact trodAll_cons_mk (shut_bool Tryz.underlying4 _) trodAll_mk0
    · rw [hp]
      simp only [List.append_nil, hs _ _ hlen]
      exact again W' sp (fun b hb => i.fr b hb (by simp)) (fun q hq => hsp q (by simpa using hq))
    · rw [hv]
      simp only [List.append_nil, hs _ _ hlen]
      rfl
  | panicked _ => exact he.elim
  | outgrown => exact he.elim
def zeroTwice : Value := .agg #[.bool false, .slice none 0 0, .slice none 0 0, .bool false, .slice none 0 0, .slice none 0 0, .int .i64 0, .int .i64 0]
def zdS {H : Type} : DataW H := .agg [zd, zd, .lit (.int .i64 0), .lit (.int .i64 0)]
set_option maxRecDepth 20000 in
/-- two values, two precisions -/
theorem open_twice {h : Heap} {v : Value} (i : In h 26 v) : ∃ (n1 : Bool) (a1 b1 : Sl) (l1 m1 : List Nat) (n2 : Bool) (a2 b2 : Sl) (l2 m2 : List Nat) (p q : Int),
    v = .agg #[.bool n1, a1.val, b1.val, .bool n2, a2.val, b2.val, .int .i64 p, .int .i64 q] ∧ (IsVal h a1 b1 l1 m1 ∧ l1.length ≤ 1048576 ∧ m1.length ≤ 1048576) ∧ (IsVal h a2 b2 l2 m2 ∧ l2.length ≤ 1048576 ∧ m2.length ≤ 1048576) ∧
    (-9223372036854775808 ≤ p ∧ p ≤ 9223372036854775807) ∧ (-9223372036854775808 ≤ q ∧ q ≤ 9223372036854775807) := by
  obtain ⟨w, H, enc, base, d, p, rfl, hval, ⟨n, hn⟩, hb⟩ := i.raw
  unfold Value.okWide at hval
  rw [Tryz.underlying26] at hval
  obtain ⟨cs, rfl, -⟩ := hval
  have h0 : DataW.trod enc Tryz.prog w 0 (fun _ => true) true n 26 cs.toList = some (d, p) := hn
  obtain ⟨xs, m, rfl, hx, hlen, hxs, hf⟩ := DataW.trod_struct Tryz.underlying26 h0
  rw [cellsTwice] at hlen
  match xs, hxs with
  | [y0, y1, y2, y3], _ =>
    obtain ⟨c0, c1, c2, d0, d1, d2, e0, f0, hcs⟩ : ∃ c0 c1 c2 d0 d1 d2 e0 f0, cs.toList = [c0, c1, c2, d0, d1, d2, e0, f0] := by
      match cs.toList, hlen with
      | [c0, c1, c2, d0, d1, d2, e0, f0], _ => exact ⟨c0, c1, c2, d0, d1, d2, e0, f0, rfl⟩
    rw [hcs] at hf
    have g0 : DataW.trod enc Tryz.prog w 0 (fun _ => true) true m 24 ([c0, c1, c2, d0, d1, d2, e0, f0].take (Tryz.prog.cellsOf 24)) = some y0 := hf 0 _ rfl
    have g1 : DataW.trod enc Tryz.prog w 0 (fun _ => true) true m 24 ([d0, d1, d2, e0, f0].take (Tryz.prog.cellsOf 24)) = some y1 := hf 1 _ rfl
    have g2 : DataW.trod enc Tryz.prog w 0 (fun _ => true) true m 3 ([e0, f0].take (Tryz.prog.cellsOf 3)) = some y2 := hf 2 _ rfl
    have g3 : DataW.trod enc Tryz.prog w 0 (fun _ => true) true m 3 ([f0].take (Tryz.prog.cellsOf 3)) = some y3 := hf 3 _ rfl
    clear hf h0
    rw [cellsRat] at g0 g1
    rw [cellsInt] at g2 g3
    change DataW.trod enc Tryz.prog w 0 (fun _ => true) true m 24 [c0, c1, c2] = some y0 at g0
    change DataW.trod enc Tryz.prog w 0 (fun _ => true) true m 24 [d0, d1, d2] = some y1 at g1
    change DataW.trod enc Tryz.prog w 0 (fun _ => true) true m 3 [e0] = some y2 at g2
    change DataW.trod enc Tryz.prog w 0 (fun _ => true) true m 3 [f0] = some y3 at g3
    obtain ⟨p1, e3, rfl, w3⟩ := DataW.trod_int Tryz.underlying3 g2
    obtain ⟨q1, e4, rfl, w4⟩ := DataW.trod_int Tryz.underlying3 g3
    obtain ⟨n1, a1, b1, l1, m1, dn1, dm1, e1, wa1, wb1, ba1, bb1, hd1, pa1, pb1, -⟩ := open_rat (enc := enc) (base := 0) (v := .agg #[c0, c1, c2]) (d := y0.1) (p := y0.2) ⟨_, rfl⟩ ⟨m, g0⟩
    obtain ⟨n2, a2, b2, l2, m2, dn2, dm2, e2, wa2, wb2, ba2, bb2, hd2, pa2, pb2, -⟩ := open_rat (enc := enc) (base := 0) (v := .agg #[d0, d1, d2]) (d := y1.1) (p := y1.2) ⟨_, rfl⟩ ⟨m, g1⟩
    have hd := (Prod.mk.inj hx).1
    rw [hd] at hb
    simp only [List.map_cons, List.map_nil, Rows.uptoBulk, Rows.uptoBulkAll, hd1, hd2] at hb
    have z1 := part_len pa1
    have z2 := part_len pb1
    have z3 := part_len pa2
    have z4 := part_len pb2
    have e1' := congrArg Array.toList (Value.agg.inj e1)
    have e2' := congrArg Array.toList (Value.agg.inj e2)
    obtain rfl : e0 = .int .i64 p1 := (List.cons.inj e3).1
    obtain rfl : f0 = .int .i64 q1 := (List.cons.inj e4).1
    obtain rfl : c0 = .bool n1 := (List.cons.inj e1').1
    obtain rfl : c1 = a1.val := (List.cons.inj (List.cons.inj e1').2).1
    obtain rfl : c2 = b1.val := (List.cons.inj (List.cons.inj (List.cons.inj e1').2).2).1
    obtain rfl : d0 = .bool n2 := (List.cons.inj e2').1
    obtain rfl : d1 = a2.val := (List.cons.inj (List.cons.inj e2').2).1
    obtain rfl : d2 = b2.val := (List.cons.inj (List.cons.inj (List.cons.inj e2').2).2).1
    refine ⟨n1, a1, b1, l1, m1, n2, a2, b2, l2, m2, p1, q1, ?_, ⟨⟨wa1, wb1, ba1, bb1, by omega, by omega⟩, by omega, by omega⟩, ⟨⟨wa2, wb2, ba2, bb2, by omega, by omega⟩, by omega, by omega⟩, bounds_i64 w3, bounds_i64 w4⟩
    rw [← Array.toArray_toList (xs := cs), hcs]
end Go.Proofs.YtdemgbmndijkkaaGreatDoor