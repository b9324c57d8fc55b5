/- The rules of 'append' and 'copy'. -/
import Derived.Test.YteblflmnhegmjaaDoorVcRule
import Derived.Laws.AppendOwn
import Derived.Laws.IdiomCopy
set_option linter.unusedVariables false
set_option linter.unusedSimpArgs false
namespace Go.Vc
open Go

/-- a slice that grows by append: none yet, or the first n elements (their cells: xs) of a block of the call's own -/
def GrowS (e : TypeId) (size : Nat) (v : Value) (n : Nat) (xs : List Value) (L : Own) : Prop :=
  xs.length = n * size ∧ ((v = .slice none 0 0 ∧ n = 0) ∨
    ∃ (i b cap : Nat) (zs : List Value), v = .slice (some ⟨b, 0, none⟩) n cap ∧ L[i]? = some (b, Obj.cells (xs ++ zs).toArray e (0, 0)) ∧ n ≤ cap ∧ (xs ++ zs).length = cap * size)

theorem GrowS.nil (e : TypeId) (size : Nat) (L : Own) : GrowS e size (.slice none 0 0) 0 [] L := ⟨by simp, .inl ⟨rfl, rfl⟩⟩
theorem GrowS.cons {e : TypeId} {size : Nat} {v : Value} {n : Nat} {xs : List Value} {L : Own} (x : Nat × Obj) (g : GrowS e size v n xs L) : GrowS e size v n xs (x :: L) :=
  ⟨g.1, match g.2 with | .inl e => .inl e | .inr ⟨i, b, cap, zs, h1, h2, h3, h4⟩ => .inr ⟨i + 1, b, cap, zs, h1, by simpa using h2, h3, h4⟩⟩

theorem not_int : ∀ dd : TypeDesc, (∀ kd, dd ≠ .int kd) → (dd matches .int _) = false := by intro dd hd; cases dd <;> simp at hd ⊢
theorem append_types {P : Program} {t u ty e : TypeId} {dd : TypeDesc} {w : World} {s x : Value} (ht : P.underlying t = some (.slice e)) (hu : P.underlying u = some dd) (hd : ∀ kd, dd ≠ .int kd) :
    (Builtin.append_ #[t, u] ty #[s, x]).run P w = (Builtin.append_ #[t, t] ty #[s, x]).run P w := by
  cases s <;> simp [Builtin.append_, run_underlying ht, run_underlying hu, not_int dd hd]

theorem one_of {v : Value} (h : isOne v = true) : v.oneCell' = true := by cases v <;> simp_all [isOne, Value.oneCell']

theorem App.grow {T : Tab} {e : TypeId} {size bytes : Nat} {s : Value} {h : Heap} {L : Own} {k : Value → Heap → Own → Prop} {z : List Value} {n : Nat} {xs : List Value}
    (hi : T.inf e = some (z, bytes)) (hz : z.length = size) (g : GrowS e size s n xs L)
    (ad : Addr) (m c : Nat) (news : List Value) (hl : news.length = m * size) (hnews : ∀ j, j < news.length → Has h L (ad.add j) (news.getD j undef)) (ho : news.all isOne = true)
    (hm : n + m ≤ 70368744177664) (hby : (n + m) * bytes ≤ 140737488355328) (hsz : 0 < size)
    (hk : ∀ v' L', GrowS e size v' (n + m) (xs ++ news) L' → (∀ x ∈ L, (∀ b l c, s = .slice (some ⟨b, 0, none⟩) l c → x.1 ≠ b) → x ∈ L') → k v' h L') :
    App T e size bytes s (.slice (some ad) m c) h L k := by
  refine ⟨fun ok o ρ K Q w0 h0 L0 w ty cc hop hty hca hargs ht hsz2 hd inv hout hK => ?_⟩
  obtain ⟨d, hd1, hd2⟩ := hd
  obtain ⟨i, zv, h1, h2, h3, h4, h5⟩ := ok.inf _ _ _ hi
  have hsi : i.size = size := by rw [h4, hz]
  have h1' : ∀ u ∈ news, u.oneCell' = true := fun u hu => one_of ((List.all_eq_true.1 ho) u hu)
  have cell : ∀ (w : World), (∀ a v, Has h L a v → w.cell? a = some v) → ∀ j u, news[j]? = some u → w.cell? (ad.add j) = some u := fun w hc j u hu => by
    obtain ⟨hj, hju⟩ := List.getElem?_eq_some_iff.1 hu
    have := hc _ _ (hnews j hj)
    rw [this]; simp [List.getD_eq_getElem?_getD, hu]
  have hc0 := cell w fun a v hh => inv.toSat.cell hh
  have hexec : ∀ r, (Builtin.append_ #[cc.argTypes.getD 0 0, cc.argTypes.getD 0 0] o.type #[s, .slice (some ad) m c]).run T.prog w = r → (execOp ρ.eval o).run T.prog w = r.andThen fun v w => .ok (.value v) w := by
    intro r hr
    have he : cc.argTypes = #[cc.argTypes.getD 0 0, cc.argTypes.getD 1 0] := by
      apply Array.ext
      · simp [hsz2]
      · intro j hj1 hj2
        rw [hsz2] at hj1
        match j, hj1 with
        | 0, _ => simp [Array.getD, hsz2]
        | 1, _ => simp [Array.getD, hsz2]
    rw [← hr, ← append_types ht hd1 hd2, ← he]
    simp only [execOp, hop, resolve, hca, invoke, builtin, Sem.run_bind, Sem.run_pure, Result.andThen_ok, hargs]
  have fin : ∀ (v' : Value) (L' : Own) (w' : World), (Builtin.append_ #[cc.argTypes.getD 0 0, cc.argTypes.getD 0 0] o.type #[s, .slice (some ad) m c]).run T.prog w = .ok v' w' → Inv w0 h0 L0 h L' w' → k v' h L' → o.wp T.prog ρ w K Q := fun v' L' w' hr hinv hkk =>
    wp_value (hexec _ hr) (hK _ _ _ _ hinv hkk)
  refine .inl ?_
  have hnl : ∀ cap, (Builtin.zeroCells zv.cells (cap - (n + m))).toList.length = (cap - (n + m)) * size := fun cap => by
    rw [Array.length_toList, size_zeroCells, h3]; simp [hz]
  obtain ⟨gl, ⟨rfl, rfl⟩ | ⟨j, b, cap, zs, rfl, hj, hnc, hlen⟩⟩ := g
  · have hx : xs = [] := List.eq_nil_of_length_eq_zero (by simpa using gl)
    subst hx
    by_cases hm0 : m = 0
    · subst hm0
      have hn : news = [] := List.eq_nil_of_length_eq_zero (by simpa using hl)
      subst hn
      refine fin (.slice none 0 0) L w ?_ inv (hk _ _ (GrowS.nil _ _ _) fun x hx _ => hx)
      generalize cc.argTypes.getD 0 0 = t at ht ⊢
      simp [Builtin.append_, run_underlying ht, sizeOf, typeInfo, h1, Builtin.lenOf, Builtin.firstCells, loadCells, loadCellsFrom]
    · have hr := run_append_nil (P := T.prog) w _ o.type e i zv ht h1 h2 ad m c news (by rw [hl, hsi]) hc0 (by omega) (by omega) (by rw [h5]; simp only [Nat.zero_add] at hby; omega)
      refine fin _ _ _ hr (inv.drew.alloc _ rfl) (hk _ _ ?_ fun x hx _ => List.mem_cons_of_mem _ hx)
      have hge := grownCap_ge w m 0 e
      refine ⟨by simpa using hl, .inr ⟨0, w.heap.size, _, (Builtin.zeroCells zv.cells (grownCap w m 0 e - m)).toList, by rw [Nat.zero_add], ?_, by omega, ?_⟩⟩
      · simp
      · have := hnl (grownCap w m 0 e)
        simp only [Nat.zero_add] at this
        rw [List.nil_append, List.length_append, this, hl, ← Nat.add_mul]; congr 1; omega
  · have hown : w.heap[b]? = some (.cells (xs ++ zs).toArray e (0, 0)) := inv.own _ (List.mem_of_getElem? hj)
    by_cases hroom : n + m ≤ cap
    · have hfit : n * i.size + news.length ≤ (xs ++ zs).toArray.size := by rw [hsi, hl, List.size_toArray, hlen, ← Nat.add_mul]; exact Nat.mul_le_mul_right _ hroom
      have hr := run_append_room (P := T.prog) w _ o.type e i ht h1 b n cap (xs ++ zs).toArray hown ad m c news (by rw [hl, hsi]) hc0 h1' hroom hfit
      have htake : (xs ++ zs).take (n * i.size) = xs := by rw [hsi, ← gl]; exact List.take_left
      rw [hsi] at hr hfit htake
      simp only [htake] at hr
      have hu : Upd w b (.cells (xs ++ news ++ (xs ++ zs).drop (n * size + news.length)).toArray e (0, 0)) (w.setRow b (xs ++ news ++ (xs ++ zs).drop (n * size + news.length)).toArray) :=
        ⟨setRow_heap w b _ _ e _ hown, fun x hx => setRow_other w b x _ hx, by simp [World.setRow], rfl, rfl, rfl, rfl⟩
      obtain ⟨hlt, hget⟩ := List.getElem?_eq_some_iff.1 hj
      refine fin _ _ _ hr (inv.upd hj hu) (hk _ _ ⟨by rw [List.length_append, gl, hl, Nat.add_mul], .inr ⟨j, b, cap, (xs ++ zs).drop (n * size + news.length), rfl, ?_, hroom, ?_⟩⟩ fun x hx hne => ?_)
      · rw [List.getElem?_set_self hlt]
      · have := List.length_drop (l := xs ++ zs) (i := n * size + news.length)
        rw [List.length_append, List.length_append, this, hlen, gl, hl, ← Nat.add_mul]
        have : (n + m) * size ≤ cap * size := Nat.mul_le_mul_right _ hroom
        omega
      · obtain ⟨q, hq, rfl⟩ := List.getElem_of_mem hx
        have hqj : q ≠ j := fun e => by subst e; exact hne b n cap rfl (by rw [hget])
        refine List.mem_of_getElem? (i := q) ?_
        rw [List.getElem?_set_ne (Ne.symm hqj), List.getElem?_eq_getElem hq]
    · have hxs : ∀ j u, xs[j]? = some u → w.cell? ((⟨b, 0, none⟩ : Addr).add j) = some u := fun q u hu => by
        rw [add_lit, Nat.zero_add]
        refine inv.toSat.cell (Has.own j hj ?_)
        obtain ⟨h1, h2⟩ := List.getElem?_eq_some_iff.1 hu
        simp [List.getElem?_append_left h1, hu]
      have hr := run_append_grow (P := T.prog) w _ o.type e i zv ht h1 h2 ⟨b, 0, none⟩ n cap xs (by rw [gl, hsi]) hxs ad m c news (by rw [hl, hsi]) hc0 (by omega) (by omega) (growslice_fits (by omega) (by rw [h5]; exact hby))
      refine fin _ _ _ hr (inv.drew.alloc _ rfl) (hk _ _ ?_ fun x hx _ => List.mem_cons_of_mem _ hx)
      have hge := grownCap_ge w (n + m) cap e
      refine ⟨by rw [List.length_append, gl, hl, Nat.add_mul], .inr ⟨0, w.heap.size, _, (Builtin.zeroCells zv.cells (grownCap w (n + m) cap e - (n + m))).toList, rfl, ?_, hge, ?_⟩⟩
      · simp
      · rw [List.length_append, hnl, List.length_append, gl, hl, ← Nat.add_mul, ← Nat.add_mul]; congr 1; omega

/-- copy into the whole of an own block from its start -/
theorem Ext.copy {T : Tab} {op : Op} {xs : List Operand} {h : Heap} {L : Own} {k : Value → Heap → Own → Prop} {dx sx : Operand} {dT sT e : TypeId} {z : List Value} {bytes : Nat}
    (hop : op = .call { callee := .builtin .copy, args := #[dx, sx], argTypes := #[dT, sT] }) (hxs : xs = [dx, sx]) (ht : T.und dT = some (.slice e)) (hi : T.inf e = some (z, bytes)) (hz : z.length = 1)
    (n : Nat) {b off dLen dCap sLen sCap : Nat} {sp : Option Addr} {old : List Value} {ET : TypeId} (hn : L[n]? = some (b, .cells old.toArray ET (0, 0))) (hfit : off + dLen ≤ old.length) (vs : List Value) (hvs : vs.length = min sLen dLen)
    (hsrc : 0 < vs.length → ∃ ad, sp = some ad ∧ ∀ j, j < vs.length → Has h L (ad.add j) (vs.getD j undef)) (ho : vs.all isOne = true)
    (hk : k (.int .i64 (vs.length : Nat)) h (L.set n (b, .cells (old.take off ++ vs ++ old.drop (off + vs.length)).toArray ET (0, 0)))) :
    Ext T op xs [.slice (some ⟨b, off, none⟩) dLen dCap, .slice sp sLen sCap] h L k := by
  subst hop hxs
  refine ⟨fun ok o ρ K Q w0 h0 L0 w hop hargs inv hout hK => .inl ?_⟩
  obtain ⟨i, zv, h1, h2, h3, h4, h5⟩ := ok.inf _ _ _ hi
  have hown : w.heap[b]? = some (.cells old.toArray ET (0, 0)) := inv.own _ (List.mem_of_getElem? hn)
  obtain ⟨hlt, hget⟩ := List.getElem?_eq_some_iff.1 hn
  have hu := ok.und _ _ ht
  have hsz : (T.prog.info? e).map (·.size) = some 1 := by rw [h1]; simp [h4, hz]
  simp only [List.map_cons, List.map_nil, List.cons.injEq, and_true] at hargs
  have hargs' : Array.map ρ.eval #[dx, sx] = #[.slice (some ⟨b, off, none⟩) dLen dCap, .slice sp sLen sCap] := by simp [hargs.1, hargs.2]
  have hexec : ∀ r, (Builtin.copy_ #[dT, sT] o.type #[.slice (some ⟨b, off, none⟩) dLen dCap, .slice sp sLen sCap]).run T.prog w = r → (execOp ρ.eval o).run T.prog w = r.andThen fun v w => .ok (.value v) w := by
    intro r hr
    rw [← hr]
    simp only [execOp, hop, resolve, invoke, builtin, Sem.run_bind, Sem.run_pure, Result.andThen_ok, hargs']
  by_cases h0 : vs.length = 0
  · obtain rfl : vs = [] := List.eq_nil_of_length_eq_zero h0
    have hrun := run_copy_none (P := T.prog) w dT sT o.type e (some ⟨b, off, none⟩) sp dLen dCap sLen sCap hu hsz (by simpa using hvs.symm)
    refine wp_value (hexec _ hrun) (hK _ _ _ _ inv ?_)
    have e1 : L.set n (b, .cells (old.take off ++ [] ++ old.drop (off + ([] : List Value).length)).toArray ET (0, 0)) = L := by
      rw [List.append_nil, List.length_nil, Nat.add_zero, List.take_append_drop, ← hget, List.set_getElem_self]
    rw [e1] at hk; exact hk
  · obtain ⟨ad, rfl, hs⟩ := hsrc (by omega)
    have hrun := run_copy_row (P := T.prog) w dT sT o.type e b off dLen dCap ad sLen sCap old.toArray ET vs hu hsz hown hvs (fun j v hv => by
      obtain ⟨hj, hju⟩ := List.getElem?_eq_some_iff.1 hv
      rw [inv.toSat.cell (hs j hj)]; simp [List.getD_eq_getElem?_getD, hv]) (by simp; omega) (fun u hu => one_of ((List.all_eq_true.1 ho) u hu))
    refine wp_value (hexec _ hrun) (hK _ _ _ _ (inv.upd hn ⟨setRow_heap w b _ _ ET _ hown, fun x hx => setRow_other w b x _ hx, by simp [World.setRow], rfl, rfl, rfl, rfl⟩) (by simpa [goInt] using hk))

/-- a call that is handed one block of the call's own and hands it back -/
theorem CallN.own {T : Tab} {f : FuncId} {args : List Value} {h : Heap} {L : Own} {k : Value → Heap → Own → Prop} {b : Nat} {o : Obj} {R : Value → Heap → Own → Prop} (n : Nat) (hn : L[n]? = some (b, o)) (ok : T.fn f = true) (hf : Fn T f args h [(b, o)] R)
    (hk : ∀ v h' La, h.le h' → R v h' La → ∃ o', La = [(b, o')] ∧ k v h' (L.set n (b, o'))) : CallN T f args h L k := by
  obtain ⟨hlt, hget⟩ := List.getElem?_eq_some_iff.1 hn
  have perm : ∀ (L : Own) (n : Nat) (x : Nat × Obj), n < L.length → (x :: L.eraseIdx n).Perm (L.set n x) := by
    intro L
    induction L with
    | nil => intro n x hl; simp at hl
    | cons y L ih =>
      intro n x hl
      match n with
      | 0 => simp
      | n + 1 =>
        simp only [List.eraseIdx_cons_succ, List.set_cons_succ]
        exact (List.Perm.swap _ _ _).trans (List.Perm.cons _ (ih n x (by simpa using hl)))
  refine ⟨ok, .done ⟨[(b, o)], L.eraseIdx n, R, ?_, hf, fun v h' La hl r => ?_⟩⟩
  · have := (perm L n (b, o) hlt).symm
    rwa [← hget, List.set_getElem_self, hget] at this
  · obtain ⟨o', rfl, hkk⟩ := hk v h' La hl r
    exact ⟨_, perm L n (b, o') hlt, hkk⟩
end Go.Vc
