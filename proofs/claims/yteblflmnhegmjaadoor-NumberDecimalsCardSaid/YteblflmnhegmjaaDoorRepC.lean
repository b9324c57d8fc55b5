/- Appending to a new empty slice: what comes out is let go at once. -/
import Derived.Test.YteblflmnhegmjaaDoorRepB
set_option linter.unusedVariables false
set_option linter.unusedSimpArgs false
namespace Go.Vc
open Go Go.Dig

theorem App.weaken {T : Tab} {e : TypeId} {size bytes : Nat} {s x : Value} {h : Heap} {L : Own} {k k1 : Value → Heap → Own → Prop} (a : App T e size bytes s x h L k1) (hk : ∀ v h' L', k1 v h' L' → FzN (k v) h' L') : App T e size bytes s x h L k :=
  ⟨fun ok o ρ K Q w0 h0 L0 w ty c h1 h2 h3 h4 h5 h6 h7 inv hout hK => a.ex ok o ρ K Q w0 h0 L0 w ty c h1 h2 h3 h4 h5 h6 h7 inv hout fun v h' L' w' i r => by
    obtain ⟨h2, L2, p, i2⟩ := i.fz (hk v h' L' r)
    exact hK v h2 L2 w' i2 p⟩

theorem App.fresh0 {T : Tab} {e : TypeId} {bytes : Nat} {h : Heap} {L : Own} {k : Value → Heap → Own → Prop} {z : Value} {bs : Nat}
    (hi : T.inf e = some ([z], bytes)) (hL : L[0]? = some (bs, .cells #[] e (0, 0)))
    (ad : Addr) (m c : Nat) (news : List Value) (hl : news.length = m) (hm0 : 0 < m) (hnews : ∀ j, j < news.length → Has h L (ad.add j) (news.getD j undef))
    (hm : m ≤ 70368744177664) (hby : m * bytes ≤ 140737488355328)
    (hk : ∀ b cap zs, m ≤ cap → k (.slice (some ⟨b, 0, none⟩) m cap) h ((b, .cells (news ++ zs).toArray e (0, 0)) :: L)) :
    App T e 1 bytes (.slice (some ⟨bs, 0, none⟩) 0 0) (.slice (some ad) m c) h L k := by
  refine ⟨fun ok o ρ K Q w0 h0 L0 w ty cc hop hty hca hargs ht hsz2 hd inv hout hK => ?_⟩
  obtain ⟨d, hd1, hd2⟩ := hd
  obtain ⟨i, zv, h1, h2, h3, h4, h5⟩ := ok.inf _ _ _ hi
  have hsi : i.size = 1 := by rw [h4]; rfl
  have cell : ∀ (w : World), (∀ a v, Has h L a v → w.cell? a = some v) → ∀ j u, news[j]? = some u → w.cell? (ad.add j) = some u := fun w hc j u hu => by
    obtain ⟨hj, hju⟩ := List.getElem?_eq_some_iff.1 hu
    have := hc _ _ (hnews j hj)
    rw [this]; simp [List.getD_eq_getElem?_getD, hu]
  have hc0 := cell w fun a v hh => inv.toSat.cell hh
  have hexec : ∀ r, (Builtin.append_ #[cc.argTypes.getD 0 0, cc.argTypes.getD 0 0] o.type #[.slice (some ⟨bs, 0, none⟩) 0 0, .slice (some ad) m c]).run T.prog w = r → (execOp ρ.eval o).run T.prog w = r.andThen fun v w => .ok (.value v) w := by
    intro r hr
    have he : cc.argTypes = #[cc.argTypes.getD 0 0, cc.argTypes.getD 1 0] := by
      apply Array.ext
      · simp [hsz2]
      · intro j hj1 hj2
        rw [hsz2] at hj1
        match j, hj1 with
        | 0, _ => simp [Array.getD, hsz2]
        | 1, _ => simp [Array.getD, hsz2]
    rw [← hr, ← append_types ht hd1 hd2, ← he]
    simp only [execOp, hop, resolve, hca, invoke, builtin, Sem.run_bind, Sem.run_pure, Result.andThen_ok, hargs]
  refine .inl ?_
  have hr := run_append_grow (P := T.prog) w _ o.type e i zv ht h1 h2 ⟨bs, 0, none⟩ 0 0 [] (by simp) (fun j u hu => by simp at hu) ad m c news (by rw [hl, hsi, Nat.mul_one]) hc0 (by omega) (by omega) (growslice_fits (by omega) (by rw [h5]; simpa using hby))
  have hge := grownCap_ge w (0 + m) 0 e
  refine wp_value (hexec _ hr) (hK _ _ _ _ (inv.drew.alloc _ rfl) ?_)
  have := hk w.heap.size (grownCap w (0 + m) 0 e) (Builtin.zeroCells zv.cells (grownCap w (0 + m) 0 e - (0 + m))).toList (by omega)
  have e0 : ([] : List Value) ++ news = news := rfl
  simp only [Nat.zero_add] at this ⊢
  have e1 : (#[] ++ news.toArray ++ Builtin.zeroCells zv.cells (grownCap w m 0 e - m)) = (news ++ (Builtin.zeroCells zv.cells (grownCap w m 0 e - m)).toList).toArray := by simp
  first | exact this | (rw [e1]; exact this)

/-- all of a slice of numbers, appended to a new empty one -/
theorem App.fresh {T : Tab} {e : TypeId} {bytes : Nat} {h : Heap} {L : Own} {k : Value → Heap → Own → Prop} {kd : IntKind} {z : Value} {t : Sl} {l : List Nat} {bs : Nat} (hi : T.inf e = some ([z], bytes))
    (w : Ws kd h t l) (hn : l.length ≤ 35184372088832) (hby : bytes ≤ 4)
    (hk : ∀ h' (s : Sl), h.le h' → Ws kd h' s l → k s.val h' L) : App T e 1 bytes (.slice (some ⟨bs, 0, none⟩) 0 0) t.val h ((bs, .cells [].toArray e (0, 0)) :: L) k := by
  have hln := w.len
  by_cases h0 : l = []
  · subst h0
    obtain ⟨a, ln, c⟩ := t
    cases hln
    match a with
    | none =>
      exact App.weaken (App.nil hi (GrowS.new (z := z) (kd := .u32) (m := 0) 0 rfl) (k := fun v h' L' => v = .slice (some ⟨bs, 0, none⟩) 0 0 ∧ h' = h ∧ L' = (bs, .cells [].toArray e (0, 0)) :: L) ⟨rfl, rfl, rfl⟩) fun v h' L' ⟨e1, e2, e3⟩ => by
        subst e1 e2 e3
        exact FzN.drop 0 (.done (hk _ ⟨some ⟨bs, 0, none⟩, 0, 0⟩ (Heap.le_refl _) (Ws.nil rfl)))
    | some a =>
      have hx : App T e 1 bytes (.slice (some ⟨bs, 0, none⟩) 0 0) (.slice (some a) 0 c) h ((bs, .cells [].toArray e (0, 0)) :: L) fun v h' L' => v = .slice (some ⟨bs, 0, none⟩) 0 0 ∧ h' = h ∧ L' = (bs, .cells [].toArray e (0, 0)) :: L := by
        refine ⟨fun ok o ρ K Q w0 h0 L0 w ty cc hop hty hca hargs ht hsz2 hd inv hout hK => ?_⟩
        obtain ⟨d, hd1, hd2⟩ := hd
        obtain ⟨i, zv, h1, h2, h3, h4, h5⟩ := ok.inf _ _ _ hi
        have hexec : ∀ r, (Builtin.append_ #[cc.argTypes.getD 0 0, cc.argTypes.getD 0 0] o.type #[.slice (some ⟨bs, 0, none⟩) 0 0, .slice (some a) 0 c]).run T.prog w = r → (execOp ρ.eval o).run T.prog w = r.andThen fun v w => .ok (.value v) w := by
          intro r hr
          have he : cc.argTypes = #[cc.argTypes.getD 0 0, cc.argTypes.getD 1 0] := by
            apply Array.ext
            · simp [hsz2]
            · intro j hj1 hj2
              rw [hsz2] at hj1
              match j, hj1 with
              | 0, _ => simp [Array.getD, hsz2]
              | 1, _ => simp [Array.getD, hsz2]
          rw [← hr, ← append_types ht hd1 hd2, ← he]
          simp only [execOp, hop, resolve, hca, invoke, builtin, Sem.run_bind, Sem.run_pure, Result.andThen_ok, hargs]
        refine .inl (wp_value (hexec (.ok (.slice (some ⟨bs, 0, none⟩) 0 0) w) ?_) (hK _ _ _ _ inv ⟨rfl, rfl, rfl⟩))
        generalize cc.argTypes.getD 0 0 = t at ht ⊢
        simp [Builtin.append_, run_underlying ht, sizeOf, typeInfo, h1, Builtin.lenOf, Builtin.firstCells, loadCells, loadCellsFrom, storeCells]
      exact App.weaken hx fun v h' L' ⟨e1, e2, e3⟩ => by
        subst e1 e2 e3
        exact FzN.drop 0 (.done (hk _ ⟨some ⟨bs, 0, none⟩, 0, 0⟩ (Heap.le_refl _) (Ws.nil rfl)))
  · obtain ⟨b', off, c', T', fz, h1, h2, h3⟩ := w.mem h0
    obtain ⟨a, ln, c⟩ := t
    cases h1
    have hpos : 0 < l.length := List.length_pos_iff.2 h0
    have hln' : ln = l.length := hln
    subst hln'
    refine App.weaken (App.fresh0 hi rfl ⟨b', off, none⟩ l.length c (l.map (vu kd)) (by simp) hpos (fun j hj => ?_) (by omega) (Nat.le_trans (Nat.mul_le_mul hn hby) (by decide))
      (k := fun v h' L' => ∃ b cap zs, l.length ≤ cap ∧ v = .slice (some ⟨b, 0, none⟩) l.length cap ∧ h' = h ∧ L' = (b, .cells (l.map (vu kd) ++ zs).toArray e (0, 0)) :: (bs, .cells [].toArray e (0, 0)) :: L) (fun b cap zs hc => ⟨b, cap, zs, hc, rfl, rfl, rfl⟩)) fun v h' L' ⟨b, cap, zs, hc, e1, e2, e3⟩ => ?_
    · simp at hj
      rw [add_lit]
      refine Has.imm h2 ?_
      rw [h3 j hj]; simp [hj, vu, List.getD_eq_getElem?_getD]
    · subst e1 e2 e3
      exact FzN.keep 0 rfl fun hle => FzN.drop 0 (.done (hk _ ⟨some ⟨b, 0, none⟩, l.length, cap⟩ hle (Ws.grown rfl hc)))
end Go.Vc
