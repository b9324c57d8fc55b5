/- The frame of a law of values and ints; the world of the witness. -/
import Derived.Test.YteblflmnhegmjaaDoorFr3
set_option linter.unusedVariables false
set_option linter.unusedSimpArgs false
namespace Go.Proofs.YteblflmnhegmjaaDoor
open Go Go.Vc Go.Dig Go.ChangeShapes Go.WideShapes Go.ChangeAt Go.RowKit

/-- an argument of a law -/
inductive Arg where
  | rat (n : Bool) (a b : Sl) (l m : List Nat)
  | int (kd : IntKind) (n : Int)
def Arg.val : Arg → Value
  | .rat n a b _ _ => .agg #[.bool n, a.val, b.val]
  | .int kd n => .int kd n
def Arg.ok (h : Heap) (t : TypeId) : Arg → Prop
  | .rat _ a b l m => t = 24 ∧ IsVal h a b l m
  | .int kd n => Tryd.prog.underlying t = some (.int kd) ∧ kd.min ≤ n ∧ n ≤ kd.max
def oks (h : Heap) : List TypeId → List Arg → Prop
  | [], [] => True
  | t :: ts, x :: xs => x.ok h t ∧ oks h ts xs
  | _, _ => False

theorem ok_rat {h : Heap} {x : Arg} (o : x.ok h 24) : ∃ n a b l m, x = .rat n a b l m ∧ IsVal h a b l m := by
  cases x with
  | rat n a b l m => exact ⟨n, a, b, l, m, rfl, o.2⟩
  | int kd n =>
    have := o.1
    rw [Tryd.underlying24] at this
    cases this
theorem ok_int {h : Heap} {x : Arg} {t : TypeId} {kd : IntKind} (ht : Tryd.prog.underlying t = some (.int kd)) (o : x.ok h t) : ∃ n, x = .int kd n ∧ kd.min ≤ n ∧ n ≤ kd.max := by
  cases x with
  | rat n a b l m =>
    obtain rfl := o.1
    rw [Tryd.underlying24] at ht
    cases ht
  | int kd' n =>
    have := o.1
    rw [ht] at this
    cases this
    exact ⟨n, rfl, o.2⟩
theorem oks_cons {h : Heap} {t : TypeId} {ts : List TypeId} {xs : List Arg} (o : oks h (t :: ts) xs) : ∃ x ys, xs = x :: ys ∧ x.ok h t ∧ oks h ts ys := by
  cases xs with
  | nil => exact o.elim
  | cons x ys => exact ⟨x, ys, rfl, o.1, o.2⟩
theorem oks_nil {h : Heap} {xs : List Arg} (o : oks h [] xs) : xs = [] := by
  cases xs with
  | nil => rfl
  | cons x ys => exact o.elim

/-- a type that the frame can read -/
def good (t : TypeId) : Prop := t = 24 ∨ ∃ kd, Tryd.prog.underlying t = some (.int kd)
theorem good24 : good 24 := .inl rfl
theorem good3 : good 3 := .inr ⟨_, Tryd.underlying3⟩

section
variable {H : Type} {enc : TypeId × Value → H} {w : World}
set_option maxRecDepth 20000 in
theorem open_arg {base : Nat} {t : TypeId} {held : Bool} {v : Value} {d : DataW H} {p : List MemPlace} (ht : good t) (hval : Value.okWide Tryd.prog w .any base t v)
    (h : DataW.Trod enc Tryd.prog w 0 (fun _ => true) held t v d p) :
    ∃ x : Arg, v = x.val ∧ (Rows.uptoBulk d ≤ 1048576 ∨ t ≠ 24 → x.ok (heapOf w) t) ∧
      ∀ (W' : World) (sp' : Nat → Bool), (∀ a v, w.cell? a = some v → W'.cell? a = some v) → (∀ q ∈ p, sp' q.block = true) → DataW.Trod enc Tryd.prog W' 0 sp' held t v d p := by
  rcases ht with rfl | ⟨kd, ht⟩
  · obtain ⟨n1, a1, b1, l1, m1, dn1, dm1, rfl, wa1, wb1, ba1, bb1, rfl, pa1, pb1, again1⟩ := open_rat (base := base) (by
      unfold Value.okWide at hval
      rw [Tryd.underlying24] at hval
      obtain ⟨cs, h, -⟩ := hval
      exact ⟨cs, h⟩) h
    refine ⟨.rat n1 a1 b1 l1 m1, rfl, fun hb => ⟨rfl, ?_⟩, again1⟩
    rcases hb with hb | hb
    · have e1 := part_len pa1
      have e2 := part_len pb1
      simp only [Rows.uptoBulkAll, Rows.uptoBulk] at hb
      exact ⟨wa1, wb1, ba1, bb1, by omega, by omega⟩
    · exact absurd rfl hb
  · obtain ⟨n, rfl, rfl, rfl, hw⟩ := open_int ht hval h
    refine ⟨.int kd n, rfl, fun _ => ⟨ht, ?_⟩, fun W' sp' _ _ => shut_int ht hw⟩
    simp only [Lit.wf, Bool.and_eq_true, decide_eq_true_eq] at hw
    exact hw

set_option maxRecDepth 20000 in
theorem open_args {base : Nat} {held : Bool} : ∀ {ts : List TypeId} {vs : List Value} {ds : List (DataW H)} {p : List MemPlace}, (∀ t ∈ ts, good t) →
    (∀ (j : Nat) t v, ts[j]? = some t → vs[j]? = some v → Value.okWide Tryd.prog w .any base t v) → DataW.TrodAll enc Tryd.prog w 0 (fun _ => true) held ts vs ds p →
    ∃ xs : List Arg, vs = xs.map Arg.val ∧ ds.length = ts.length ∧ (Rows.uptoBulkAll ds ≤ 1048576 ∨ 24 ∉ ts → oks (heapOf w) ts xs) ∧
      ∀ (W' : World) (sp' : Nat → Bool), (∀ a v, w.cell? a = some v → W'.cell? a = some v) → (∀ q ∈ p, sp' q.block = true) → DataW.TrodAll enc Tryd.prog W' 0 sp' held ts vs ds p
  | [], vs, ds, p, _, _, h => by
    obtain ⟨rfl, rfl, rfl⟩ := trodAll_nil h
    exact ⟨[], rfl, rfl, fun _ => trivial, fun _ _ _ _ => trodAll_mk0⟩
  | t :: ts, vs, ds, p, ht, hval, h => by
    obtain ⟨v0, vs0, d0, ds0, p0, q0, rfl, rfl, rfl, h0, r0⟩ := trodAll_cons h
    obtain ⟨x, rfl, ox, ax⟩ := open_arg (base := base) (ht t (by simp)) (hval 0 t v0 rfl rfl) h0
    obtain ⟨xs, rfl, hlen, oxs, axs⟩ := open_args (base := base) (fun t h => ht t (by simp [h])) (fun j t v h1 h2 => hval (j + 1) t v (by simpa using h1) (by simpa using h2)) r0
    refine ⟨x :: xs, rfl, by simp [hlen], fun hb => ⟨ox ?_, oxs ?_⟩, fun W' sp' hk hs => trodAll_cons_mk (ax W' sp' hk fun q hq => hs q (by simp [hq])) (axs W' sp' hk fun q hq => hs q (by simp [hq]))⟩
    · rcases hb with hb | hb
      · simp only [Rows.uptoBulkAll] at hb; exact .inl (by omega)
      · exact .inr fun e => hb (by simp [e])
    · rcases hb with hb | hb
      · simp only [Rows.uptoBulkAll] at hb; exact .inl (by omega)
      · exact .inr fun e => hb (by simp [e])
end

set_option maxRecDepth 20000 in
/-- A LAW: what its walk gives, for every argument and every world that holds the table. -/
theorem law_contract (f : FuncId) (fn : Func) (s : ChangeSpec) (laid : List (String × DataW Unit)) (ts : List TypeId) (hp : fn.params = ts.toArray) (hg : ∀ t ∈ ts, good t) (hr : fn.resultTypes = #[4]) (hv : s.vars = [])
    (hs : ∀ (H : Type) (ds : List (DataW H)), ds.length = ts.length → s.fn H ds = { results := [.lit (.bool true)], args := ds })
    (htab : ∀ W, laidMetH Tryd.prog laid W → Tb (heapOf W))
    (law : ∀ (h : Heap) (xs : List Arg), Tb h → oks h ts xs → Fn0 T f (xs.map Arg.val) h fun v _ => v = .bool true)
    (H : Type) (enc : TypeId × Value → H) (W : World) (base : Nat) (args : Array Value) (ds gs : List (DataW H)) (before : List MemPlace)
    (hval : ∀ (j : Nat) t v, fn.params[j]? = some t → args[j]? = some v → Value.okWide Tryd.prog W .any base t v)
    (hW : DataW.Whole enc Tryd.prog fn.params.toList s.vars false W args.toList ds gs before) (hk : Rows.uptoBulkAll (ds ++ gs) ≤ 1048576 ∨ 24 ∉ ts) (hL : laidMetH Tryd.prog laid W) :
    Calls Tryd.prog f args W fun e W' => ∃ v, e = .returned v ∧ s.post enc Tryd.prog fn false true false false W args v W' := by
  have hW' := hW
  obtain ⟨p, q, hA0, hV, rfl, hfz, hnd⟩ := hW
  have hA : DataW.TrodAll enc Tryd.prog W 0 (fun _ => true) true fn.params.toList args.toList ds p := hA0
  rw [hp] at hA hval
  rw [hv] at hV
  obtain ⟨rfl, rfl⟩ := trodVars_none hV
  obtain ⟨xs, hargs, hlen, hoks, again⟩ := open_args (base := base) hg (fun j t v h1 h2 => hval j t v (by simpa using h1) (by simpa using h2)) hA
  obtain rfl : args = (xs.map Arg.val).toArray := by rw [← Array.toArray_toList (xs := args), hargs]
  rw [List.append_nil] at hk
  refine ((law _ xs (htab W hL) (hoks hk)).out W (heapOf_sat W)).mono fun e W' he => ?_
  cases e with
  | returned v =>
    obtain ⟨h', L', i, -, rfl⟩ := he
    refine ⟨_, rfl, ?_⟩
    refine post_of_same (pa := p) (pv := []) hW' (fun _ _ _ => ?_) (fun sp hsp => ?_) (fun _ _ => ?_) rfl (kept_of i _) (frozen_of i) (ok_one hr rfl (okWide_bool_mk Tryd.underlying4 _))
    · rw [hr]
      simp only [List.append_nil, hs _ _ hlen]
      exact trodAll_cons_mk (shut_bool Tryd.underlying4 _) trodAll_mk0
    · rw [hp]
      simp only [List.append_nil, hs _ _ hlen]
      simpa using again W' sp (cell_of i) (fun q hq => hsp q (by simpa using hq))
    · rw [hv]
      simp only [List.append_nil, hs _ _ hlen]
      rfl
  | panicked _ => exact he.elim
  | outgrown => exact he.elim

/-- a world for the witness: the settled one, the table (block 0) holding what its initialiser lays -/
noncomputable def laidWorld (os : Os) : World :=
  { World.holding Tryd.prog os ⟨#[], #[], []⟩ with heap := (World.holding Tryd.prog os ⟨#[], #[], []⟩).heap.modify 0 fun
      | .cells _ t frozen => .cells (tabL.map (vu .u8)).toArray t frozen
      | o => o }
def zeroRat : Value := .agg #[.bool false, .slice none 0 0, .slice none 0 0]
def zd {H : Type} : DataW H := .agg [.lit (.bool false), .nil, .nil]
theorem gTabType : (Tryd.prog.globals[0]?).map (·.type) = some 133 := by kernel_rfl
theorem cells110 : Tryd.prog.cellsOf 133 = 32 := by kernel_rfl
theorem cells5 : Tryd.prog.cellsOf 5 = 1 := by kernel_rfl
theorem wants24 : Tryd.prog.wantsStandIn 24 = false := by kernel_rfl
theorem wants3 : Tryd.prog.wantsStandIn 3 = false := by kernel_rfl
end Go.Proofs.YteblflmnhegmjaaDoor
