/- Own memory that is lent to a call; what a call has made and hands out; more rules. -/
import Derived.Test.YteblflmnhegmjaaDoorRepA
set_option linter.unusedVariables false
set_option linter.unusedSimpArgs false
namespace Go.Vc
open Go Go.Dig

theorem Fn.freeze {T : Tab} {f : FuncId} {args : List Value} {h : Heap} {L : Own} {R R' : Value → Heap → Own → Prop} (hf : Vc.Fn T f args h L R) (hr : ∀ v h' L', h.le h' → R v h' L' → FzN (R' v) h' L') : Vc.Fn T f args h L R' :=
  fun w s => (hf w s).mono fun e w' he => by
    cases e with
    | returned v =>
      obtain ⟨h', L', i, r⟩ := he
      obtain ⟨h2, L2, p, i2⟩ := i.fz (hr _ _ _ i.hle r)
      exact ⟨h2, L2, i2, p⟩
    | panicked c => exact he
    | outgrown => exact he
/-- a call that hands out memory of its own -/
theorem CallN.make {T : Tab} {f : FuncId} {args : List Value} {h : Heap} {L : Own} {k : Value → Heap → Own → Prop} {R : Value → Heap → Own → Prop} (ok : T.fn f = true) (hf : Vc.Fn T f args h [] R) (hk : ∀ v h' La, h.le h' → R v h' La → k v h' (La ++ L)) : CallN T f args h L k :=
  ⟨ok, .done ⟨[], L, _, by simp, hf, fun v h' La hl r => ⟨La ++ L, .refl _, hk v h' La hl r⟩⟩⟩
/-- own memory that a call only reads -/
theorem Fn.lend {T : Tab} {f : FuncId} {args : List Value} {h : Heap} {b : Nat} {o : Obj} {R : Value → Prop} (hf : h.le (h.put b o) → Fn0 T f args (h.put b o) fun v _ => R v) : Vc.Fn T f args h [(b, o)] fun v _ L' => L' = [(b, o)] ∧ R v := by
  intro w s
  have hb := s.sep _ (List.mem_singleton.2 rfl)
  have hown := s.own _ (List.mem_singleton.2 rfl)
  have s' : Sat (h.put b o) [] w := by
    refine ⟨fun x o' hx => ?_, fun x hx => (by cases hx), fun x hx => (by cases hx), (by simp)⟩
    unfold Heap.put at hx
    split at hx
    · rename_i e; subst e; cases hx; exact hown
    · exact s.imm _ _ hx
  have hle : h.le (h.put b o) := fun x o' hx => by
    unfold Heap.put
    split
    · rename_i e; subst e; simp only at hb; rw [hb] at hx; cases hx
    · exact hx
  refine ((hf hle).out w s').mono fun e w' he => ?_
  cases e with
  | returned v =>
    obtain ⟨h', L', i, rfl, r⟩ := he
    have hbo : h' b = some o := i.hle _ _ (by simp [Heap.put])
    refine ⟨fun x => if x = b then none else h' x, [(b, o)], ⟨⟨fun x o' hx => ?_, fun x hx => ?_, fun x hx => ?_, (by simp)⟩, i.os, i.tape, i.output, i.size, fun x hl hn => i.fr x hl (by simp), fun x o' hx => ?_, fun x o' hx hl hn => ?_, fun x hx hl => ?_, fun hs => hs, fun hs x o' hx ho => ?_⟩, rfl, r⟩
    · split at hx
      · cases hx
      · exact i.imm _ _ hx
    · obtain rfl := List.mem_singleton.1 hx; exact i.imm _ _ hbo
    · obtain rfl := List.mem_singleton.1 hx; simp
    · have hne : x ≠ b := fun e => by subst e; simp only at hb; rw [hb] at hx; cases hx
      simp only [if_neg hne]
      exact i.hle _ _ (by simp [Heap.put, hne, hx])
    · split at hx
      · cases hx
      · rename_i hne
        have := i.hnew _ _ hx hl (by simp)
        simpa [Heap.put, hne] using this
    · obtain rfl := List.mem_singleton.1 hx; simp
    · by_cases hxb : x = b
      · subst hxb; rw [i.imm _ _ hbo] at ho; cases ho; exact hs _ (List.mem_singleton.2 rfl)
      · refine i.frz (fun y hy => by cases hy) x o' (.inl ?_) ho
        rcases hx with hx | hx
        · exact hx
        · simp at hx; exact absurd hx hxb
  | panicked c => exact he
  | outgrown => exact he
theorem CallN.lend {T : Tab} {f : FuncId} {args : List Value} {h : Heap} {L : Own} {k : Value → Heap → Own → Prop} {b : Nat} {o : Obj} {R : Value → Prop} (n : Nat) (hn : L[n]? = some (b, o)) (ok : T.fn f = true) (hf : h.le (h.put b o) → Fn0 T f args (h.put b o) fun v _ => R v)
    (hk : ∀ v h', h.le h' → R v → k v h' L) : CallN T f args h L k := by
  refine CallN.own n hn ok (Fn.lend hf) fun v h' La hl ⟨e, r⟩ => ⟨o, e, ?_⟩
  obtain ⟨hlt, hget⟩ := List.getElem?_eq_some_iff.1 hn
  rw [← hget, List.set_getElem_self]
  exact hk v h' hl r
theorem GrowS.behind {e : TypeId} {size : Nat} {v : Value} {n : Nat} {xs : List Value} {La : Own} (g : GrowS e size v n xs La) (L : Own) : GrowS e size v n xs (La ++ L) :=
  ⟨g.1, match g.2 with
    | .inl x => .inl x
    | .inr ⟨i, b, cap, zs, h1, h2, h3, h4⟩ => .inr ⟨i, b, cap, zs, h1, by
      obtain ⟨hlt, hget⟩ := List.getElem?_eq_some_iff.1 h2
      rw [List.getElem?_append_left hlt]; exact h2, h3, h4⟩⟩
theorem GrowS.zero {e : TypeId} {kd : IntKind} {b q c : Nat} {L : Own} (i : Nat) (h : L[i]? = some (b, .cells (List.replicate c (Value.int kd 0)).toArray e (0, 0))) (hq : q ≤ c) : GrowS e 1 (.slice (some ⟨b, 0, Option.none⟩) q c) q ((List.replicate q 0).map (vu kd)) L :=
  ⟨by simp, .inr ⟨i, b, c, List.replicate (c - q) (Value.int kd 0), rfl, by
    rw [h, List.map_replicate]
    show some (b, Obj.cells (List.replicate c (Value.int kd 0)).toArray e (0, 0)) = some (b, Obj.cells (List.replicate q (Value.int kd 0) ++ List.replicate (c - q) (Value.int kd 0)).toArray e (0, 0))
    rw [List.replicate_append_replicate, show q + (c - q) = c by omega], hq, by simp; omega⟩⟩
/-- what is left of a slice behind a place -/
theorem CutA.drop {kd : IntKind} {h : Heap} {s : Sl} {l : List Nat} {i e : Int} {k : Option Addr → Nat → Nat → Prop} (w : Ws kd h s l) (q : Nat) (hi : i = q) (he : e = s.l) (hq : q < l.length) (hk : ∀ s' : Sl, Ws kd h s' (l.drop q) → k s'.a s'.l s'.c) : CutA s.a i e s.c 1 k := by
  have hl := w.len
  have hc := w.cap
  obtain ⟨b, off, c, T, fz, h1, h2, h3⟩ := w.mem (by rintro rfl; simp at hq)
  refine ⟨q, s.l, some ⟨b, off + q, none⟩, s.l - q, s.c - q, hi, he, by omega, hc, by rw [if_neg (by omega), h1]; simp [add_lit], rfl, rfl, ?_⟩
  refine hk ⟨some ⟨b, off + q, none⟩, s.l - q, s.c - q⟩ ⟨by simp; omega, by simp; omega, fun _ => ⟨b, off + q, c, T, fz, rfl, h2, fun j hj => ?_⟩⟩
  simp at hj
  rw [Nat.add_assoc, h3 (q + j) (by omega)]
  simp [List.getD_eq_getElem?_getD, List.getElem?_drop]
theorem WrapN.u32v {n : Int} {k : Int → Prop} (x : Nat) (h : n % 4294967296 = x) (hk : k x) : WrapN .u32 n k := WrapN.u32m (by rw [h]; exact hk)
theorem WrapN.u64w {n : Int} {k : Int → Prop} (x : Nat) (h : n % 18446744073709551616 = x) (hk : k x) : WrapN .u64 n k := WrapN.u64m (by rw [h]; exact hk)
theorem ShlN.u32p {x r : Nat} {a b : Int} {k : Int → Prop} (ha : a = (x : Nat)) (hb : b = (r : Nat)) (hx : x < 65536) (hr : r ≤ 15) (hk : ∀ p : Nat, Hq (p = x * 2 ^ r) → p < 2147483648 → k p) : ShlN .u32 a b k := by
  subst ha hb
  have h1 : 2 ^ r ≤ 2 ^ 15 := Nat.pow_le_pow_right (by omega) hr
  have h2 : x * 2 ^ r ≤ 65535 * 32768 := Nat.mul_le_mul (by omega) h1
  refine ShlN.mk' r (by show r ≤ 32; omega) ?_
  have e : ((x : Int) * 2 ^ r) = ((x * 2 ^ r : Nat) : Int) := by push_cast; rfl
  rw [e, wrap_nat rfl (by show _ < 2 ^ 32; omega)]
  exact hk _ ⟨rfl⟩ (by omega)
/-- the low 16 bits of an int, and what is above -/
theorem BitN.mask16 {x : Int} {k : Int → Prop} (h1 : -9223372036854775808 ≤ x) (h2 : x ≤ 9223372036854775807) (hk : ∀ y : Nat, (y : Int) = x % 65536 → k y) : BitN .and .i64 x 65535 k := by
  refine ⟨?_⟩
  have e : ((Vc.bits .and .i64 x 65535 : Nat) : Int) = x % 65536 := by
    show (((BitVec.ofInt 64 x &&& BitVec.ofInt 64 65535).toNat : Nat) : Int) = x % 65536
    have e2 : (BitVec.ofInt 64 65535).toNat = 2 ^ 16 - 1 := by decide
    rw [BitVec.toNat_and, e2, Nat.and_two_pow_sub_one_eq_mod, BitVec.toNat_ofInt]
    omega
  have hlt : x % 65536 < 65536 := Int.emod_lt_of_pos _ (by decide)
  have hge : 0 ≤ x % 65536 := Int.emod_nonneg _ (by decide)
  rw [wrap_in _ (by simp [IntKind.min, IntKind.signed, IntKind.bits] <;> omega) (by simp [IntKind.max, IntKind.signed, IntKind.bits] <;> omega)]
  exact hk _ e
theorem ShrN.i16 {kd : IntKind} {x : Int} {k : Int → Prop} (hb : 16 ≤ kd.bits) (hk : ∀ y : Int, y = x / 65536 → k y) : ShrN kd x 16 k := by
  refine ⟨by decide, ?_⟩
  have e : min (16 : Int).toNat kd.bits = 16 := Nat.min_eq_left hb
  rw [e]
  exact hk _ (Int.fdiv_eq_ediv_of_nonneg _ (by decide))
end Go.Vc
