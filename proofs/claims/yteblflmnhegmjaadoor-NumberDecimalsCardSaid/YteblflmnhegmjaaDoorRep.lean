/- How slices of words read as numbers. -/
import Derived.Test.YteblflmnhegmjaaDoorVcRule
import Derived.Test.YteblflmnhegmjaaDoorDig
set_option linter.unusedVariables false
set_option linter.unusedSimpArgs false
namespace Go.Vc
open Go Go.Dig

/-- a slice's head -/
structure Sl where
  a : Option Addr
  l : Nat
  c : Nat
def Sl.val (s : Sl) : Value := .slice s.a s.l s.c

/-- the slice reads, in memory that nobody writes, as these numbers of the kind -/
structure Ws (kd : IntKind) (h : Heap) (s : Sl) (l : List Nat) : Prop where
  len : s.l = l.length
  cap : s.l ≤ s.c
  mem : l ≠ [] → ∃ b off c T fz, s.a = some ⟨b, off, none⟩ ∧ h b = some (.cells c T fz) ∧ ∀ i, i < l.length → c[off + i]? = some (.int kd ((l.getD i 0 : Nat) : Int))

theorem Ws.mono {kd : IntKind} {h h' : Heap} {s : Sl} {l : List Nat} (w : Ws kd h s l) (hl : h.le h') : Ws kd h' s l :=
  ⟨w.len, w.cap, fun hn => let ⟨b, off, c, T, fz, h1, h2, h3⟩ := w.mem hn; ⟨b, off, c, T, fz, h1, hl _ _ h2, h3⟩⟩
theorem Ws.take {kd : IntKind} {h : Heap} {s : Sl} {l : List Nat} (w : Ws kd h s l) {k : Nat} (hk : k ≤ l.length) : Ws kd h ⟨s.a, k, s.c⟩ (l.take k) :=
  ⟨by simp [Nat.min_eq_left hk], by have := w.cap; have := w.len; simp; omega, fun hn => by
    obtain ⟨b, off, c, T, fz, h1, h2, h3⟩ := w.mem (by rintro rfl; simp at hn)
    refine ⟨b, off, c, T, fz, h1, h2, fun i hi => ?_⟩
    simp only [List.length_take] at hi
    rw [h3 i (by omega)]
    simp [List.getD_eq_getElem?_getD, List.getElem?_take, show i < k by omega]⟩
theorem Ws.nil {kd : IntKind} {h : Heap} {s : Sl} (h1 : s.l = 0) : Ws kd h s [] := ⟨h1, by omega, fun hn => (hn rfl).elim⟩
/-- an element by its index -/
theorem Idx.ws {kd : IntKind} {h : Heap} {s : Sl} {l : List Nat} (w : Ws kd h s l) {i : Int} {k : Addr → Prop} (j : Nat) (hi : i = j) (hj : j < l.length) (hk : ∀ ad, (∀ L, Has h L ad (.int kd ((l.getD j 0 : Nat) : Int))) → k ad) : Idx s.a i s.l 1 k := by
  obtain ⟨b, off, c, T, fz, h1, h2, h3⟩ := w.mem (by rintro rfl; simp at hj)
  exact Idx.one j h1 hi (by have := w.len; omega) (hk _ fun L => Has.imm h2 (h3 j hj))
/-- the head of a slice, unchanged from its place on -/
theorem CutA.front {s : Sl} {h : Int} {size : Nat} {k : Option Addr → Nat → Nat → Prop} (n : Nat) (hh : h = n) (hn : n ≤ s.c) (hk : k s.a n s.c) : CutA s.a 0 h s.c size k :=
  ⟨0, n, s.a, n, s.c, rfl, hh, by omega, hn, by
    have : (fun x : Addr => x.add (0 * size)) = id := by funext x; simp [Addr.add]
    split
    · rfl
    · rw [this]; simp, rfl, rfl, hk⟩

/-- a natural number in words of 32 bits -/
def IsNat (h : Heap) (s : Sl) (n : Nat) : Prop := Ws .u32 h s (dg 4294967296 n)
theorem IsNat.mono {h h' : Heap} {s : Sl} {n : Nat} (w : IsNat h s n) (hl : h.le h') : IsNat h' s n := Ws.mono w hl
theorem IsNat.len {h : Heap} {s : Sl} {n : Nat} (w : IsNat h s n) : s.l = ln 4294967296 n := Ws.len w
/-- a natural number in digits to the base 65536, as the reference has it -/
def IsRef (h : Heap) (s : Sl) (n : Nat) : Prop := Ws .u32 h s (dg 65536 n)
theorem IsRef.mono {h h' : Heap} {s : Sl} {n : Nat} (w : IsRef h s n) (hl : h.le h') : IsRef h' s n := Ws.mono w hl
theorem IsRef.len {h : Heap} {s : Sl} {n : Nat} (w : IsRef h s n) : s.l = ln 65536 n := Ws.len w

/-- memory of the call's own that is let go reads as it was written -/
theorem Ws.put {kd : IntKind} {h : Heap} {b : Nat} {T : TypeId} {fz : Nat × Nat} {cells : List Value} {l : List Nat} {n c : Nat} (hn : n = l.length) (hc : n ≤ c) (hl : ∀ i, i < l.length → cells[i]? = some (.int kd ((l.getD i 0 : Nat) : Int))) :
    Ws kd (h.put b (.cells cells.toArray T fz)) ⟨some ⟨b, 0, none⟩, n, c⟩ l :=
  ⟨hn, hc, fun _ => ⟨b, 0, cells.toArray, T, fz, rfl, by simp [Heap.put], fun i hi => by simpa using hl i hi⟩⟩

/-! ### own memory that holds numbers -/
def vu (kd : IntKind) (x : Nat) : Value := .int kd (x : Int)
abbrev Row (kd : IntKind) (T : TypeId) (o : List Nat) : Obj := .cells (o.map (vu kd)).toArray T (0, 0)
theorem row_new (kd : IntKind) (m : Nat) : List.replicate m (Value.int kd 0) = (List.replicate m 0).map (vu kd) := by simp [vu]
theorem row_get {kd : IntKind} {o : List Nat} {j : Nat} (hj : j < o.length) : (o.map (vu kd)).toArray[j]? = some (.int kd ((o.getD j 0 : Nat) : Int)) := by
  simp [hj, vu, List.getD_eq_getElem?_getD]
theorem Ld.ws {h : Heap} {L : Own} {b off : Nat} {k : Value → Prop} {kd : IntKind} {T : TypeId} {o : List Nat} (n : Nat) (hb : L[n]? = some (b, Row kd T o)) (ho : off < o.length) (hk : k (.int kd ((o.getD off 0 : Nat) : Int))) : Ld h L ⟨b, off, none⟩ k :=
  Ld.own n hb (row_get ho) hk
theorem Sto.ws {L : Own} {b off : Nat} {kd : IntKind} {T : TypeId} {o : List Nat} {v : Int} {k : Own → Prop} (n : Nat) (hb : L[n]? = some (b, Row kd T o)) (x : Nat) (hx : v = x) (hl : off < o.length)
    (hk : setK (b, Row kd T (o.set off x)) L n k) : Sto L ⟨b, off, none⟩ [.int kd v] k := by
  subst hx
  refine Sto.sym n hb (by simpa using hl) rfl ?_
  have : (o.map (vu kd)).set off (.int kd x) = (o.set off x).map (vu kd) := by rw [List.map_set]; rfl
  rw [this]; exact hk
theorem Idx.own {b n : Nat} {i : Int} {k : Addr → Prop} (j : Nat) (hi : i = j) (hj : j < n) (hk : k ⟨b, j, none⟩) : Idx (some ⟨b, 0, none⟩) i n 1 k :=
  Idx.one j rfl hi hj (by rw [Nat.zero_add]; exact hk)
theorem Mk.of {n : Int} {bytes : Nat} {k : Nat → Prop} (m : Nat) (h : n = m) (h1 : m ≤ 281474976710656) (h2 : bytes * m ≤ 281474976710656) (hk : k m) : Mk n bytes k := ⟨m, h, h1, h2, hk⟩
/-- own memory let go, as a slice of all of it -/
theorem Ws.row {kd : IntKind} {h : Heap} {b : Nat} {T : TypeId} {o : List Nat} {n : Nat} (hn : n = o.length) : Ws kd (h.put b (Row kd T o)) ⟨some ⟨b, 0, none⟩, n, n⟩ o :=
  Ws.put hn (Nat.le_refl _) fun i hi => by simp [hi, vu, List.getD_eq_getElem?_getD]
/-- a test that the walk leaves whole -/
@[irreducible] def dec (p : Prop) [Decidable p] : Bool := decide p
theorem cnd_dec {p : Prop} [Decidable p] {a b : Prop} (ha : p → a) (hb : ¬ p → b) : cnd (dec p) a b := by
  unfold dec; by_cases h : p
  · rw [decide_eq_true h]; exact ha h
  · rw [decide_eq_false h]; exact hb h
theorem dec_true {p : Prop} [Decidable p] (h : p) : dec p = true := by unfold dec; exact decide_eq_true h
theorem dec_false {p : Prop} [Decidable p] (h : ¬ p) : dec p = false := by unfold dec; exact decide_eq_false h
theorem dec_iff {p : Prop} [Decidable p] : dec p = true ↔ p := by unfold dec; exact decide_eq_true_iff
theorem dec_eq {p : Prop} [Decidable p] : dec p = decide p := by unfold dec; rfl
/-- a fact that omega shall not look into -/
structure Hq (p : Prop) : Prop where
  out : p
theorem vi {kd : IntKind} {a b : Int} (h : a = b) : Value.int kd a = Value.int kd b := by rw [h]
/-- a product of two words, under a name -/
theorem WrapN.mul32 {x y : Nat} {k : Int → Prop} (hx : x < 4294967296) (hy : y < 4294967296) (hk : ∀ p : Nat, Hq (p = x * y) → p ≤ 18446744065119617025 → k p) : WrapN .u64 ((x : Int) * (y : Int)) k := by
  have h : x * y ≤ 4294967295 * 4294967295 := Nat.mul_le_mul (by omega) (by omega)
  have e : ((x * y : Nat) : Int) = (x : Int) * (y : Int) := by push_cast; rfl
  rw [← e]
  have h' : x * y ≤ 18446744065119617025 := h
  exact WrapN.u64 (Int.natCast_nonneg _) (by have := Int.ofNat_le.2 h'; exact Int.le_trans this (by decide)) (hk (x * y) ⟨rfl⟩ h')
end Go.Vc
