/- Rows of numbers that grow by append: rules. -/
import Derived.Test.YteblflmnhegmjaaDoorVcApp
import Derived.Test.YteblflmnhegmjaaDoorRep2
set_option linter.unusedVariables false
set_option linter.unusedSimpArgs false
namespace Go.Vc
open Go Go.Dig

theorem GrowS.out {e : TypeId} {v : Value} {n : Nat} {xs : List Value} {L : Own} (g : GrowS e 1 v n xs L) :
    (v = .slice none 0 0 ∧ n = 0 ∧ xs = []) ∨ ∃ (i b cap : Nat) (zs : List Value), v = .slice (some ⟨b, 0, none⟩) n cap ∧ L[i]? = some (b, Obj.cells (xs ++ zs).toArray e (0, 0)) ∧ n ≤ cap ∧ xs.length = n := by
  obtain ⟨g1, ⟨rfl, rfl⟩ | ⟨i, b, cap, zs, rfl, h2, h3, -⟩⟩ := g
  · exact .inl ⟨rfl, rfl, List.eq_nil_of_length_eq_zero (by omega)⟩
  · exact .inr ⟨i, b, cap, zs, rfl, h2, h3, by omega⟩
theorem Ws.grown {kd : IntKind} {h : Heap} {b : Nat} {e : TypeId} {xs : List Nat} {zs : List Value} {n cap : Nat} (hn : n = xs.length) (hc : n ≤ cap) : Ws kd (h.put b (.cells (xs.map (vu kd) ++ zs).toArray e (0, 0))) ⟨some ⟨b, 0, none⟩, n, cap⟩ xs :=
  Ws.put hn hc fun i hi => by
    rw [List.getElem?_append_left (by simpa using hi)]
    simp [hi, vu, List.getD_eq_getElem?_getD]
theorem RetN.grow {kd : IntKind} {e : TypeId} {v : Value} {n : Nat} {xs : List Nat} {h : Heap} {L : Own} {R : Value → Heap → Prop} (g : GrowS e 1 v n (xs.map (vu kd)) L)
    (hk : ∀ h' (s : Sl), h.le h' → v = s.val → Ws kd h' s xs → R v h') : RetN v h L fun v h' L' => L' = [] ∧ R v h' := by
  obtain ⟨rfl, rfl, hx⟩ | ⟨i, b, cap, zs, rfl, h2, h3, h4⟩ := g.out
  · obtain rfl : xs = [] := by simpa using hx
    exact RetN.all (hk h ⟨none, 0, 0⟩ (Heap.le_refl _) rfl (Ws.nil rfl))
  · exact RetN.keep i h2 fun hle => RetN.all (hk _ ⟨some ⟨b, 0, none⟩, n, cap⟩ hle rfl (Ws.grown (by simpa using h4.symm) h3))
theorem CallN.grow {T : Tab} {f : FuncId} {args : List Value} {h : Heap} {L : Own} {k : Value → Heap → Own → Prop} {kd : IntKind} {e : TypeId} {v : Value} {n : Nat} {xs : List Nat} (g : GrowS e 1 v n (xs.map (vu kd)) L) (hf : T.fn f = true)
    (hk : ∀ h' L' (s : Sl), h.le h' → v = s.val → Ws kd h' s xs → CallN T f args h' L' k) : CallN T f args h L k := by
  obtain ⟨rfl, rfl, hx⟩ | ⟨i, b, cap, zs, rfl, h2, h3, h4⟩ := g.out
  · obtain rfl : xs = [] := by simpa using hx
    exact hk h L ⟨none, 0, 0⟩ (Heap.le_refl _) rfl (Ws.nil rfl)
  · exact CallN.keep i h2 hf fun hle => hk _ _ ⟨some ⟨b, 0, none⟩, n, cap⟩ hle rfl (Ws.grown (by simpa using h4.symm) h3)
/-- a call of a function that leaves memory as it is -/
theorem CallN.quiet {T : Tab} {f : FuncId} {args : List Value} {h : Heap} {L : Own} {k : Value → Heap → Own → Prop} {v0 : Value} (ok : T.fn f = true) (hf : Fn0 T f args h fun v h' => h' = h ∧ v = v0) (hk : k v0 h L) : CallN T f args h L k :=
  CallN.fn ok hf fun v h' _ ⟨e1, e2⟩ => by rw [e1, e2]; exact hk
/-- one number more -/
theorem App.push {T : Tab} {e : TypeId} {bytes : Nat} {s : Value} {h : Heap} {L : Own} {k : Value → Heap → Own → Prop} {kd : IntKind} {n : Nat} {xs : List Nat} {z : Value} {b : Nat} {ET : TypeId} {y : Int} (hi : T.inf e = some ([z], bytes))
    (g : GrowS e 1 s n (xs.map (vu kd)) L) (x : Nat) (hx : y = x) (hn : n + 1 ≤ 35184372088832) (hby : bytes ≤ 4)
    (hk : ∀ v' L', GrowS e 1 v' (n + 1) ((xs ++ [x]).map (vu kd)) L' → k v' h L') : App T e 1 bytes s (.slice (some ⟨b, 0, none⟩) 1 1) h ((b, .cells [.int kd y].toArray ET (0, 0)) :: L) k := by
  subst hx
  refine App.grow hi rfl (g.cons _) ⟨b, 0, none⟩ 1 1 [.int kd x] rfl (fun j hj => ?_) rfl (by omega) (Nat.le_trans (Nat.mul_le_mul hn hby) (by decide)) Nat.one_pos (fun v' L' g' _ => hk v' L' (by rw [List.map_append]; exact g'))
  obtain rfl : j = 0 := by simpa using hj
  exact Has.own 0 rfl rfl
/-- two numbers more -/
theorem App.push2 {T : Tab} {e : TypeId} {bytes : Nat} {s : Value} {h : Heap} {L : Own} {k : Value → Heap → Own → Prop} {kd : IntKind} {n : Nat} {xs : List Nat} {z : Value} {b : Nat} {ET : TypeId} {y y' : Int} (hi : T.inf e = some ([z], bytes))
    (g : GrowS e 1 s n (xs.map (vu kd)) L) (x x' : Nat) (hx : y = x) (hx' : y' = x') (hn : n + 2 ≤ 35184372088832) (hby : bytes ≤ 4)
    (hk : ∀ v' L', GrowS e 1 v' (n + 2) ((xs ++ [x, x']).map (vu kd)) L' → k v' h L') : App T e 1 bytes s (.slice (some ⟨b, 0, none⟩) 2 2) h ((b, .cells [.int kd y, .int kd y'].toArray ET (0, 0)) :: L) k := by
  subst hx hx'
  refine App.grow hi rfl (g.cons _) ⟨b, 0, none⟩ 2 2 [.int kd x, .int kd x'] rfl (fun j hj => ?_) rfl (by omega) (Nat.le_trans (Nat.mul_le_mul hn hby) (by decide)) Nat.one_pos (fun v' L' g' _ => hk v' L' (by rw [List.map_append]; exact g'))
  rw [add_lit]
  match j, hj with
  | 0, _ => exact Has.own 0 rfl rfl
  | 1, _ => exact Has.own 0 rfl rfl
/-- nothing is appended -/
theorem App.nil {T : Tab} {e : TypeId} {size bytes : Nat} {s : Value} {h : Heap} {L : Own} {k : Value → Heap → Own → Prop} {z : List Value} {n : Nat} {xs : List Value}
    {c : Nat} (hi : T.inf e = some (z, bytes)) (g : GrowS e size s n xs L) (hk : k s h L) : App T e size bytes s (.slice none 0 c) h L k := by
  refine ⟨fun ok o ρ K Q w0 h0 L0 w ty cc hop hty hca hargs ht hsz2 hd inv hout hK => ?_⟩
  obtain ⟨d, hd1, hd2⟩ := hd
  obtain ⟨i, zv, h1, h2, h3, h4, h5⟩ := ok.inf _ _ _ hi
  have hexec : ∀ r, (Builtin.append_ #[cc.argTypes.getD 0 0, cc.argTypes.getD 0 0] o.type #[s, .slice none 0 c]).run T.prog w = r → (execOp ρ.eval o).run T.prog w = r.andThen fun v w => .ok (.value v) w := by
    intro r hr
    have he : cc.argTypes = #[cc.argTypes.getD 0 0, cc.argTypes.getD 1 0] := by
      apply Array.ext
      · simp [hsz2]
      · intro j hj1 hj2
        rw [hsz2] at hj1
        match j, hj1 with
        | 0, _ => simp [Array.getD, hsz2]
        | 1, _ => simp [Array.getD, hsz2]
    rw [← hr, ← append_types ht hd1 hd2, ← he]
    simp only [execOp, hop, resolve, hca, invoke, builtin, Sem.run_bind, Sem.run_pure, Result.andThen_ok, hargs]
  refine .inl (wp_value (hexec (.ok s w) ?_) (hK _ _ _ _ inv hk))
  generalize cc.argTypes.getD 0 0 = t at ht ⊢
  obtain ⟨gl, ⟨rfl, rfl⟩ | ⟨j, b, cap, zs, rfl, hj, hnc, hlen⟩⟩ := g
  · simp [Builtin.append_, run_underlying ht, sizeOf, typeInfo, h1, Builtin.lenOf, Builtin.firstCells, loadCells, loadCellsFrom]
  · simp [Builtin.append_, run_underlying ht, sizeOf, typeInfo, h1, Builtin.lenOf, Builtin.firstCells, loadCells, loadCellsFrom, hnc, storeCells]
/-- an empty own row -/
theorem GrowS.new {e : TypeId} {kd : IntKind} {z : Value} {b m : Nat} {L : Own} (i : Nat) (h : L[i]? = some (b, .cells (List.replicate m z).toArray e (0, 0))) : GrowS e 1 (.slice (some ⟨b, 0, none⟩) 0 m) 0 (([] : List Nat).map (vu kd)) L :=
  ⟨rfl, .inr ⟨i, b, m, List.replicate m z, rfl, by simpa using h, by omega, by simp⟩⟩
theorem GrowS.none {e : TypeId} {kd : IntKind} {L : Own} : GrowS e 1 (.slice none 0 0) 0 (([] : List Nat).map (vu kd)) L := GrowS.nil _ _ _
/-- all of a slice of numbers -/
theorem App.all {T : Tab} {e : TypeId} {bytes : Nat} {s : Value} {h : Heap} {L : Own} {k : Value → Heap → Own → Prop} {kd : IntKind} {n : Nat} {xs : List Nat} {z : Value} {t : Sl} {l : List Nat} (hi : T.inf e = some ([z], bytes))
    (g : GrowS e 1 s n (xs.map (vu kd)) L) (w : Ws kd h t l) (ht : t.a ≠ none) (hn : n + l.length ≤ 35184372088832) (hby : bytes ≤ 4)
    (hk : ∀ v' L', GrowS e 1 v' (n + l.length) ((xs ++ l).map (vu kd)) L' → k v' h L') : App T e 1 bytes s t.val h L k := by
  obtain ⟨a, ln, c⟩ := t
  match a, ht with
  | some a, _ =>
    have hl : ln = l.length := w.len
    subst hl
    refine App.grow hi rfl g a l.length c (l.map (vu kd)) (by simp) (fun j hj => ?_) (by simp [vu, isOne]) (by omega) (Nat.le_trans (Nat.mul_le_mul hn hby) (by decide)) Nat.one_pos (fun v' L' g' _ => hk v' L' (by rw [List.map_append]; exact g'))
    simp at hj
    obtain ⟨b', off, c, T', fz, h1, h2, h3⟩ := w.mem (by rintro rfl; simp at hj)
    cases h1
    rw [add_lit]
    refine Has.imm h2 ?_
    rw [h3 j hj]; simp [hj, vu, List.getD_eq_getElem?_getD]
/-- all of a slice of numbers, none among them -/
theorem App.any {T : Tab} {e : TypeId} {bytes : Nat} {s : Value} {h : Heap} {L : Own} {k : Value → Heap → Own → Prop} {kd : IntKind} {n : Nat} {xs : List Nat} {z : Value} {t : Sl} {l : List Nat} (hi : T.inf e = some ([z], bytes))
    (g : GrowS e 1 s n (xs.map (vu kd)) L) (w : Ws kd h t l) (hn : n + l.length ≤ 35184372088832) (hby : bytes ≤ 4)
    (hk : ∀ v' L', GrowS e 1 v' (n + l.length) ((xs ++ l).map (vu kd)) L' → k v' h L') : App T e 1 bytes s t.val h L k := by
  by_cases ha : t.a = none
  · obtain rfl : l = [] := by
      rcases List.eq_nil_or_concat l with e | ⟨_, _, e⟩
      · exact e
      · obtain ⟨b, off, _, _, _, hx, -⟩ := w.mem (by rw [e]; simp)
        rw [ha] at hx; cases hx
    have h1 := w.len
    obtain ⟨a, ln, c⟩ := t
    cases ha; cases h1
    exact App.nil hi g (hk _ _ (by simpa using g))
  · exact App.all hi g w ha hn hby hk
end Go.Vc
namespace Go.Dig
/-- a list without a most significant 0: told by its number -/
theorem dg_full {b : Nat} (hb : 2 ≤ b) {l : List Nat} (h : ∀ x ∈ l, x < b) (hl : l.length = 0 ∨ b ^ (l.length - 1) ≤ evl b l) : dg b (evl b l) = l := by
  refine dg_evl hb h fun hne h0 => ?_
  have hpos := List.length_pos_iff.2 hne
  have hlast : l.getD (l.length - 1) 0 = 0 := by
    rw [List.getLast_eq_getElem] at h0
    rw [List.getD_eq_getElem?_getD, List.getElem?_eq_getElem (by omega)]; exact h0
  have e := evl_take_succ (b := b) (l := l) (k := l.length - 1) (by omega)
  rw [hlast, Nat.mul_zero, Nat.add_zero, Nat.sub_add_cancel hpos, List.take_length] at e
  have hlt := evl_lt hb (l := l.take (l.length - 1)) fun x hx => h x (List.mem_of_mem_take hx)
  rw [show (l.take (l.length - 1)).length = l.length - 1 by simp] at hlt
  omega
end Go.Dig
