/- Rows that grow by append ahead of other memory of the call's own; more than one number appended. -/
import Derived.Test.YteblflmnhegmjaaDoorRepA
import Derived.Test.YteblflmnhegmjaaDoorW9
set_option linter.unusedVariables false
set_option linter.unusedSimpArgs false
namespace Go.Vc
open Go Go.Dig

theorem App.growA {T : Tab} {e : TypeId} {size bytes : Nat} {s : Value} {h : Heap} {A F tl : Own} {k : Value → Heap → Own → Prop} {z : List Value} {n : Nat} {xs : List Value}
    (hi : T.inf e = some (z, bytes)) (hz : z.length = size) (g : GrowS e size s n xs F)
    (ad : Addr) (m c : Nat) (news : List Value) (hl : news.length = m * size) (hnews : ∀ j, j < news.length → Has h (A ++ (F ++ tl)) (ad.add j) (news.getD j undef)) (ho : news.all isOne = true)
    (hm0 : 0 < m) (hm : n + m ≤ 70368744177664) (hby : (n + m) * bytes ≤ 140737488355328) (hsz : 0 < size)
    (hk : ∀ v' F', GrowS e size v' (n + m) (xs ++ news) F' → (∀ x ∈ A, x ∈ F') → k v' h (F' ++ tl)) :
    App T e size bytes s (.slice (some ad) m c) h (A ++ (F ++ tl)) k := by
  refine ⟨fun ok o ρ K Q w0 h0 L0 w ty cc hop hty hca hargs ht hsz2 hd inv hout hK => ?_⟩
  obtain ⟨d, hd1, hd2⟩ := hd
  obtain ⟨i, zv, h1, h2, h3, h4, h5⟩ := ok.inf _ _ _ hi
  have hsi : i.size = size := by rw [h4, hz]
  have h1' : ∀ u ∈ news, u.oneCell' = true := fun u hu => one_of ((List.all_eq_true.1 ho) u hu)
  have cell : ∀ (w : World), (∀ a v, Has h (A ++ (F ++ tl)) a v → w.cell? a = some v) → ∀ j u, news[j]? = some u → w.cell? (ad.add j) = some u := fun w hc j u hu => by
    obtain ⟨hj, hju⟩ := List.getElem?_eq_some_iff.1 hu
    have := hc _ _ (hnews j hj)
    rw [this]; simp [List.getD_eq_getElem?_getD, hu]
  have hc0 := cell w fun a v hh => inv.toSat.cell hh
  have hexec : ∀ r, (Builtin.append_ #[cc.argTypes.getD 0 0, cc.argTypes.getD 0 0] o.type #[s, .slice (some ad) m c]).run T.prog w = r → (execOp ρ.eval o).run T.prog w = r.andThen fun v w => .ok (.value v) w := by
    intro r hr
    have he : cc.argTypes = #[cc.argTypes.getD 0 0, cc.argTypes.getD 1 0] := by
      apply Array.ext
      · simp [hsz2]
      · intro j hj1 hj2
        rw [hsz2] at hj1
        match j, hj1 with
        | 0, _ => simp [Array.getD, hsz2]
        | 1, _ => simp [Array.getD, hsz2]
    rw [← hr, ← append_types ht hd1 hd2, ← he]
    simp only [execOp, hop, resolve, hca, invoke, builtin, Sem.run_bind, Sem.run_pure, Result.andThen_ok, hargs]
  have fin : ∀ (v' : Value) (L' : Own) (w' : World), (Builtin.append_ #[cc.argTypes.getD 0 0, cc.argTypes.getD 0 0] o.type #[s, .slice (some ad) m c]).run T.prog w = .ok v' w' → Inv w0 h0 L0 h L' w' → k v' h L' → o.wp T.prog ρ w K Q := fun v' L' w' hr hinv hkk =>
    wp_value (hexec _ hr) (hK _ _ _ _ hinv hkk)
  refine .inl ?_
  have hnl : ∀ cap, (Builtin.zeroCells zv.cells (cap - (n + m))).toList.length = (cap - (n + m)) * size := fun cap => by
    rw [Array.length_toList, size_zeroCells, h3]; simp [hz]
  obtain ⟨gl, ⟨rfl, rfl⟩ | ⟨j, b, cap, zs, rfl, hj, hnc, hlen⟩⟩ := g
  · have hx : xs = [] := List.eq_nil_of_length_eq_zero (by simpa using gl)
    subst hx
    have hr := run_append_nil (P := T.prog) w _ o.type e i zv ht h1 h2 ad m c news (by rw [hl, hsi]) hc0 (by omega) (by omega) (by rw [h5]; simp only [Nat.zero_add] at hby; omega)
    refine fin _ _ _ hr (inv.drew.alloc _ rfl) ?_
    rw [← List.append_assoc, ← List.cons_append]
    refine hk _ (_ :: (A ++ F)) ?_ (fun x hx => List.mem_cons_of_mem _ (List.mem_append_left _ hx))
    have hge := grownCap_ge w m 0 e
    refine ⟨by simpa using hl, .inr ⟨0, w.heap.size, _, (Builtin.zeroCells zv.cells (grownCap w m 0 e - m)).toList, by rw [Nat.zero_add], ?_, by omega, ?_⟩⟩
    · simp
    · have := hnl (grownCap w m 0 e)
      simp only [Nat.zero_add] at this
      rw [List.nil_append, List.length_append, this, hl, ← Nat.add_mul]; congr 1; omega
  · obtain ⟨hlt, hget⟩ := List.getElem?_eq_some_iff.1 hj
    have hj' : (A ++ (F ++ tl))[A.length + j]? = some (b, .cells (xs ++ zs).toArray e (0, 0)) := by
      rw [List.getElem?_append_right (by omega), Nat.add_sub_cancel_left, List.getElem?_append_left hlt]; exact hj
    have hown : w.heap[b]? = some (.cells (xs ++ zs).toArray e (0, 0)) := inv.own _ (List.mem_of_getElem? hj')
    by_cases hroom : n + m ≤ cap
    · have hfit : n * i.size + news.length ≤ (xs ++ zs).toArray.size := by rw [hsi, hl, List.size_toArray, hlen, ← Nat.add_mul]; exact Nat.mul_le_mul_right _ hroom
      have hr := run_append_room (P := T.prog) w _ o.type e i ht h1 b n cap (xs ++ zs).toArray hown ad m c news (by rw [hl, hsi]) hc0 h1' hroom hfit
      have htake : (xs ++ zs).take (n * i.size) = xs := by rw [hsi, ← gl]; exact List.take_left
      rw [hsi] at hr hfit htake
      simp only [htake] at hr
      have hu : Upd w b (.cells (xs ++ news ++ (xs ++ zs).drop (n * size + news.length)).toArray e (0, 0)) (w.setRow b (xs ++ news ++ (xs ++ zs).drop (n * size + news.length)).toArray) :=
        ⟨setRow_heap w b _ _ e _ hown, fun x hx => setRow_other w b x _ hx, by simp [World.setRow], rfl, rfl, rfl, rfl⟩
      refine fin _ _ _ hr (inv.upd hj' hu) ?_
      rw [List.set_append_right _ _ (by omega), Nat.add_sub_cancel_left, List.set_append_left _ _ hlt, ← List.append_assoc]
      refine hk _ _ ⟨by rw [List.length_append, gl, hl, Nat.add_mul], .inr ⟨A.length + j, b, cap, (xs ++ zs).drop (n * size + news.length), rfl, ?_, hroom, ?_⟩⟩ (fun x hx => List.mem_append_left _ hx)
      · rw [List.getElem?_append_right (by omega), Nat.add_sub_cancel_left, List.getElem?_set_self hlt]
      · have := List.length_drop (l := xs ++ zs) (i := n * size + news.length)
        rw [List.length_append, List.length_append, this, hlen, gl, hl, ← Nat.add_mul]
        have : (n + m) * size ≤ cap * size := Nat.mul_le_mul_right _ hroom
        omega
    · have hxs : ∀ j u, xs[j]? = some u → w.cell? ((⟨b, 0, none⟩ : Addr).add j) = some u := fun q u hu => by
        rw [add_lit, Nat.zero_add]
        refine inv.toSat.cell (Has.own (A.length + j) hj' ?_)
        obtain ⟨h1, h2⟩ := List.getElem?_eq_some_iff.1 hu
        simp [List.getElem?_append_left h1, hu]
      have hr := run_append_grow (P := T.prog) w _ o.type e i zv ht h1 h2 ⟨b, 0, none⟩ n cap xs (by rw [gl, hsi]) hxs ad m c news (by rw [hl, hsi]) hc0 (by omega) (by omega) (growslice_fits (by omega) (by rw [h5]; exact hby))
      refine fin _ _ _ hr (inv.drew.alloc _ rfl) ?_
      rw [← List.append_assoc, ← List.cons_append]
      refine hk _ (_ :: (A ++ F)) ?_ (fun x hx => List.mem_cons_of_mem _ (List.mem_append_left _ hx))
      have hge := grownCap_ge w (n + m) cap e
      refine ⟨by rw [List.length_append, gl, hl, Nat.add_mul], .inr ⟨0, w.heap.size, _, (Builtin.zeroCells zv.cells (grownCap w (n + m) cap e - (n + m))).toList, rfl, ?_, hge, ?_⟩⟩
      · simp
      · rw [List.length_append, hnl, List.length_append, gl, hl, ← Nat.add_mul, ← Nat.add_mul]; congr 1; omega

theorem App.growF {T : Tab} {e : TypeId} {size bytes : Nat} {s : Value} {h : Heap} {F tl : Own} {k : Value → Heap → Own → Prop} {z : List Value} {n : Nat} {xs : List Value}
    (hi : T.inf e = some (z, bytes)) (hz : z.length = size) (g : GrowS e size s n xs F)
    (ad : Addr) (m c : Nat) (news : List Value) (hl : news.length = m * size) (hnews : ∀ j, j < news.length → Has h (F ++ tl) (ad.add j) (news.getD j undef)) (ho : news.all isOne = true)
    (hm0 : 0 < m) (hm : n + m ≤ 70368744177664) (hby : (n + m) * bytes ≤ 140737488355328) (hsz : 0 < size)
    (hk : ∀ v' F', GrowS e size v' (n + m) (xs ++ news) F' → k v' h (F' ++ tl)) :
    App T e size bytes s (.slice (some ad) m c) h (F ++ tl) k := 
  App.growA (A := []) hi hz g ad m c news hl hnews ho hm0 hm hby hsz fun v' F' g' _ => hk v' F' g'

/-- numbers more, ahead of other memory -/
theorem App.pushF {T : Tab} {e : TypeId} {bytes : Nat} {s : Value} {h : Heap} {F tl : Own} {k : Value → Heap → Own → Prop} {kd : IntKind} {n : Nat} {xs : List Nat} {z : Value} {b : Nat} {ET : TypeId} {y : Int} (hi : T.inf e = some ([z], bytes))
    (g : GrowS e 1 s n (xs.map (vu kd)) F) (x : Nat) (hx : y = x) (hn : n + 1 ≤ 35184372088832) (hby : bytes ≤ 4)
    (hk : ∀ v' F', GrowS e 1 v' (n + 1) ((xs ++ [x]).map (vu kd)) F' → k v' h (F' ++ tl)) : App T e 1 bytes s (.slice (some ⟨b, 0, none⟩) 1 1) h ((b, .cells [.int kd y].toArray ET (0, 0)) :: (F ++ tl)) k := by
  subst hx
  refine App.growF (F := (b, .cells [.int kd x].toArray ET (0, 0)) :: F) (tl := tl) hi rfl (g.cons _) ⟨b, 0, none⟩ 1 1 [.int kd x] rfl (fun j hj => ?_) rfl (by omega) (by omega) (Nat.le_trans (Nat.mul_le_mul hn hby) (by decide)) Nat.one_pos (fun v' F' g' => hk v' F' (by rw [List.map_append]; exact g'))
  obtain rfl : j = 0 := by simpa using hj
  exact Has.own 0 rfl rfl
theorem App.push2F {T : Tab} {e : TypeId} {bytes : Nat} {s : Value} {h : Heap} {F tl : Own} {k : Value → Heap → Own → Prop} {kd : IntKind} {n : Nat} {xs : List Nat} {z : Value} {b : Nat} {ET : TypeId} {y y' : Int} (hi : T.inf e = some ([z], bytes))
    (g : GrowS e 1 s n (xs.map (vu kd)) F) (x x' : Nat) (hx : y = x) (hx' : y' = x') (hn : n + 2 ≤ 35184372088832) (hby : bytes ≤ 4)
    (hk : ∀ v' F', GrowS e 1 v' (n + 2) ((xs ++ [x, x']).map (vu kd)) F' → k v' h (F' ++ tl)) : App T e 1 bytes s (.slice (some ⟨b, 0, none⟩) 2 2) h ((b, .cells [.int kd y, .int kd y'].toArray ET (0, 0)) :: (F ++ tl)) k := by
  subst hx hx'
  refine App.growF (F := (b, .cells [.int kd x, .int kd x'].toArray ET (0, 0)) :: F) (tl := tl) hi rfl (g.cons _) ⟨b, 0, none⟩ 2 2 [.int kd x, .int kd x'] rfl (fun j hj => ?_) rfl (by omega) (by omega) (Nat.le_trans (Nat.mul_le_mul hn hby) (by decide)) Nat.one_pos (fun v' F' g' => hk v' F' (by rw [List.map_append]; exact g'))
  rw [add_lit]
  match j, hj with
  | 0, _ => exact Has.own 0 rfl rfl
  | 1, _ => exact Has.own 0 rfl rfl
theorem GrowS.front {e : TypeId} {size : Nat} {v : Value} {n : Nat} {xs : List Value} {F : Own} (g : GrowS e size v n xs F) (tl : Own) : GrowS e size v n xs (F ++ tl) :=
  ⟨g.1, match g.2 with | .inl e => .inl e | .inr ⟨i, b, cap, zs, h1, h2, h3, h4⟩ => .inr ⟨i, b, cap, zs, h1, by
    rw [List.getElem?_append_left (List.getElem?_eq_some_iff.1 h2).1]; exact h2, h3, h4⟩⟩
/-- a loop behind which the row is never written again -/
theorem LoopN.growF {body : Post → Env → Heap → Own → Prop} {ws : List Nat} {Q : Post} {ρ : Env} {h : Heap} {F tl : Own} {kd : IntKind} {e : TypeId} {v : Value} {n : Nat} {xs : List Nat} (g : GrowS e 1 v n (xs.map (vu kd)) F)
    (hk : ∀ h' F' (s : Sl), h.le h' → v = s.val → Ws kd h' s xs → LoopN body ws Q ρ h' (F' ++ tl)) : LoopN body ws Q ρ h (F ++ tl) := by
  obtain ⟨rfl, rfl, hx⟩ | ⟨i, b, cap, zs, rfl, h2, h3, h4⟩ := g.out
  · obtain rfl : xs = [] := by simpa using hx
    exact hk h F ⟨none, 0, 0⟩ (Heap.le_refl _) rfl (Ws.nil rfl)
  · have hlt := (List.getElem?_eq_some_iff.1 h2).1
    refine LoopN.keep i (by rw [List.getElem?_append_left hlt]; exact h2) fun hle => ?_
    rw [List.eraseIdx_append_of_lt_length hlt]
    exact hk _ _ ⟨some ⟨b, 0, none⟩, n, cap⟩ hle rfl (Ws.grown (by simpa using h4.symm) h3)
theorem LoopN.drop {body : Post → Env → Heap → Own → Prop} {ws : List Nat} {Q : Post} {ρ : Env} {h : Heap} {L : Own} (n : Nat) (hk : LoopN body ws Q ρ h (L.eraseIdx n)) : LoopN body ws Q ρ h L := ⟨.drop n hk.ex⟩
theorem tail_get (G : Own) (x : Nat × Obj) (tl : Own) : (G ++ x :: tl)[G.length]? = some x := by simp
/-- memory behind a front that is not told -/
theorem Sto.tail {G tl : Own} {b off : Nat} {v : Value} {l : List Value} {T : TypeId} {k : Own → Prop} (hl : Nat.ble (off + 1) l.length = true) (ho : isOne v = true)
    (hk : setK v l off fun l => k (G ++ (b, .cells l.toArray T (0, 0)) :: tl)) : Sto (G ++ (b, .cells l.toArray T (0, 0)) :: tl) ⟨b, off, none⟩ [v] k := by
  rw [setK_iff] at hk
  exact Sto.sym G.length (tail_get _ _ _) (Nat.le_of_ble_eq_true hl) ho (by rw [setK_iff]; simpa using hk)
theorem LdN.tail {h : Heap} {G tl : Own} {b m : Nat} {k : Value → Prop} {l : List Value} {T : TypeId} {fz : Nat × Nat} (hl : l.length = m) (hk : k (.agg l.toArray)) : LdN h (G ++ (b, .cells l.toArray T fz) :: tl) ⟨b, 0, none⟩ m k :=
  LdN.own G.length (tail_get _ _ _) hl hk
theorem LdN.tail1 {h : Heap} {G tl : Own} {b m : Nat} {k : Value → Prop} {l : List Value} {T : TypeId} {fz : Nat × Nat} {x : Nat × Obj} (hl : l.length = m) (hk : k (.agg l.toArray)) : LdN h (G ++ x :: (b, .cells l.toArray T fz) :: tl) ⟨b, 0, none⟩ m k := by
  rw [show G ++ x :: (b, .cells l.toArray T fz) :: tl = (G ++ [x]) ++ (b, .cells l.toArray T fz) :: tl by simp]
  exact LdN.tail hl hk
theorem Sto.tail1 {G tl : Own} {b : Nat} {u v w x y z : Value} {T : TypeId} {k : Own → Prop} {e : Nat × Obj} (ho : [u, v, w].all isOne = true)
    (hk : k (G ++ e :: (b, .cells [u, v, w].toArray T (0, 0)) :: tl)) : Sto (G ++ e :: (b, .cells [x, y, z].toArray T (0, 0)) :: tl) ⟨b, 0, none⟩ [u, v, w] k := by
  rw [show G ++ e :: (b, .cells [x, y, z].toArray T (0, 0)) :: tl = (G ++ [e]) ++ (b, .cells [x, y, z].toArray T (0, 0)) :: tl by simp]
  refine Sto.lit (G ++ [e]).length (tail_get _ _ _) rfl ho ?_
  simp only [setsK, setK, setK_iff]
  simpa using hk
theorem Ld.tail2 {h : Heap} {G tl : Own} {b off : Nat} {k : Value → Prop} {v : Value} {l : List Value} {T : TypeId} {fz : Nat × Nat} {x y : Nat × Obj} (hl : l[off]? = some v) (hk : k v) : Ld h (G ++ x :: y :: (b, .cells l.toArray T fz) :: tl) ⟨b, off, none⟩ k :=
  Ld.own (c := l.toArray) (T := T) (fz := fz) (G.length + 2) (by simp) (by simpa using hl) hk
theorem Sl.val_inj {s t : Sl} (h : s.val = t.val) : s = t := by
  cases s; cases t; simp [Sl.val] at h; simp [h]
/-- a row that is there or has been grown: it is never written again -/
theorem LoopN.rowF {body : Post → Env → Heap → Own → Prop} {ws : List Nat} {Q : Post} {ρ : Env} {h : Heap} {G tl : Own} {kd : IntKind} {e : TypeId} {d : Sl} {n : Nat} {xs : List Nat} (g : (G = [] ∧ Ws kd h d xs) ∨ GrowS e 1 d.val n (xs.map (vu kd)) G)
    (hk : ∀ h' G', h.le h' → Ws kd h' d xs → LoopN body ws Q ρ h' (G' ++ tl)) : LoopN body ws Q ρ h (G ++ tl) := by
  rcases g with ⟨rfl, w⟩ | g
  · exact hk h [] (Heap.le_refl _) w
  · refine LoopN.growF g fun h' G' s hle hs w => hk h' G' hle ?_
    rw [Sl.val_inj hs]; exact w
theorem GrowS.sl {e : TypeId} {size : Nat} {v : Value} {n : Nat} {xs : List Value} {G : Own} (g : GrowS e size v n xs G) : ∃ s : Sl, v = s.val := by
  obtain ⟨-, ⟨rfl, -⟩ | ⟨i, b, cap, zs, rfl, -⟩⟩ := g
  · exact ⟨⟨Option.none, 0, 0⟩, rfl⟩
  · exact ⟨⟨some ⟨b, 0, Option.none⟩, n, cap⟩, rfl⟩
/-- the end of a function that hands out a row with other things -/
theorem RetN.rowF {kd : IntKind} {e : TypeId} {v : Value} {d : Sl} {n : Nat} {xs : List Nat} {h : Heap} {G tl : Own} {R : Value → Heap → Prop} (g : GrowS e 1 d.val n (xs.map (vu kd)) G)
    (hk : ∀ h', h.le h' → Ws kd h' d xs → R v h') : RetN v h (G ++ tl) fun v h' L' => L' = [] ∧ R v h' := by
  obtain ⟨h1, rfl, hx⟩ | ⟨i, b, cap, zs, h1, h2, h3, h4⟩ := (g.front tl).out
  · obtain rfl : xs = [] := by simpa using hx
    rw [show d = ⟨none, 0, 0⟩ from Sl.val_inj h1] at hk
    exact RetN.all (hk h (Heap.le_refl _) (Ws.nil rfl))
  · rw [show d = ⟨some ⟨b, 0, none⟩, n, cap⟩ from Sl.val_inj h1] at hk
    exact RetN.keep i h2 fun hle => RetN.all (hk _ hle (Ws.grown (by simpa using h4.symm) h3))
theorem LoopN.keep0 {body : Post → Env → Heap → Own → Prop} {ws : List Nat} {Q : Post} {ρ : Env} {h : Heap} {L : Own} {b : Nat} {o : Obj} (hk : ∀ h', h.le h' → h' b = some o → LoopN body ws Q ρ h' L) : LoopN body ws Q ρ h ((b, o) :: L) :=
  LoopN.keep 0 rfl fun hle => hk _ hle (by simp [Heap.put])
/-- a loop behind which a row of any elements is never written again; what comes ahead of it is kept -/
theorem LoopN.freeze {body : Post → Env → Heap → Own → Prop} {ws : List Nat} {Q : Post} {ρ : Env} {h : Heap} {x : Nat × Obj} {G tl : Own} {b : Nat} {o : Obj} (i : Nat) (hi : G[i]? = some (b, o))
    (hk : ∀ h' G', h.le h' → h' b = some o → LoopN body ws Q ρ h' (x :: (G' ++ tl))) : LoopN body ws Q ρ h (x :: (G ++ tl)) := by
  have hlt := (List.getElem?_eq_some_iff.1 hi).1
  refine LoopN.keep (i + 1) (by simpa [List.getElem?_append_left hlt] using hi) fun hle => ?_
  have e : (x :: (G ++ tl)).eraseIdx (i + 1) = x :: (G.eraseIdx i ++ tl) := by
    rw [List.eraseIdx_cons_succ, List.eraseIdx_append_of_lt_length hlt]
  rw [e]
  exact hk _ _ hle (by simp [Heap.put])
theorem LdN.mem {h : Heap} {L : Own} {b m : Nat} {k : Value → Prop} {l : List Value} {T : TypeId} {fz : Nat × Nat} (hb : (b, Obj.cells l.toArray T fz) ∈ L) (hl : l.length = m) (hk : k (.agg l.toArray)) : LdN h L ⟨b, 0, none⟩ m k := by
  obtain ⟨n, hn⟩ := List.getElem?_of_mem hb
  exact LdN.own n hn hl hk
/-- three cells of a row -/
theorem LdN.three {h : Heap} {L : Own} {b off : Nat} {k : Value → Prop} {l : List Value} {T : TypeId} {fz : Nat × Nat} {u v w : Value} (hb : h b = some (.cells l.toArray T fz) ∨ (b, Obj.cells l.toArray T fz) ∈ L) (h0 : l[off]? = some u) (h1 : l[off + 1]? = some v) (h2 : l[off + 2]? = some w) (hk : k (.agg #[u, v, w])) : LdN h L ⟨b, off, none⟩ 3 k :=
  ⟨[u, v, w], rfl, fun i hi => by
    rw [add_lit]
    refine ⟨rfl, _, _, _, hb, ?_⟩
    match i, hi with
    | 0, _ => simpa using h0
    | 1, _ => simpa using h1
    | 2, _ => simpa using h2, hk⟩
theorem Sto.tail3 {G tl : Own} {b : Nat} {u v w x y z : Value} {T : TypeId} {k : Own → Prop} (ho : [u, v, w].all isOne = true)
    (hk : k (G ++ (b, .cells [u, v, w].toArray T (0, 0)) :: tl)) : Sto (G ++ (b, .cells [x, y, z].toArray T (0, 0)) :: tl) ⟨b, 0, none⟩ [u, v, w] k := by
  refine Sto.lit G.length (tail_get _ _ _) rfl ho ?_
  simp only [setsK, setK, setK_iff]
  simpa using hk
theorem Sto.tail4 {G tl : Own} {b : Nat} {u v w x y z : Value} {T : TypeId} {k : Own → Prop} {e f : Nat × Obj} (ho : [u, v, w].all isOne = true)
    (hk : k (G ++ e :: f :: (b, .cells [u, v, w].toArray T (0, 0)) :: tl)) : Sto (G ++ e :: f :: (b, .cells [x, y, z].toArray T (0, 0)) :: tl) ⟨b, 0, none⟩ [u, v, w] k := by
  rw [show G ++ e :: f :: (b, .cells [x, y, z].toArray T (0, 0)) :: tl = (G ++ [e, f]) ++ (b, .cells [x, y, z].toArray T (0, 0)) :: tl by simp]
  refine Sto.lit (G ++ [e, f]).length (tail_get _ _ _) rfl ho ?_
  simp only [setsK, setK, setK_iff]
  simpa using hk
theorem LdN.tail2 {h : Heap} {G tl : Own} {b m : Nat} {k : Value → Prop} {l : List Value} {T : TypeId} {fz : Nat × Nat} {x y : Nat × Obj} (hl : l.length = m) (hk : k (.agg l.toArray)) : LdN h (G ++ x :: y :: (b, .cells l.toArray T fz) :: tl) ⟨b, 0, none⟩ m k := by
  rw [show G ++ x :: y :: (b, .cells l.toArray T fz) :: tl = (G ++ [x, y]) ++ (b, .cells l.toArray T fz) :: tl by simp]
  exact LdN.tail hl hk
theorem Has.three {h : Heap} {b : Nat} {u v w : Value} {T : TypeId} {fz : Nat × Nat} (L : Own) (j : Nat) (hj : j < [u, v, w].length) : Has h ((b, .cells [u, v, w].toArray T fz) :: L) ((⟨b, 0, none⟩ : Addr).add j) ([u, v, w].getD j undef) := by
  rw [add_lit]
  refine ⟨rfl, _, _, _, .inr (List.mem_cons_self), ?_⟩
  match j, hj with
  | 0, _ => rfl
  | 1, _ => rfl
  | 2, _ => rfl
theorem LdN.memF {h : Heap} {G tl : Own} {b m : Nat} {k : Value → Prop} {l : List Value} {T : TypeId} {fz : Nat × Nat} (hb : (b, Obj.cells l.toArray T fz) ∈ G) (hl : l.length = m) (hk : k (.agg l.toArray)) : LdN h (G ++ tl) ⟨b, 0, none⟩ m k :=
  LdN.mem (List.mem_append_left _ hb) hl hk
theorem LdN.memF1 {h : Heap} {G tl : Own} {x : Nat × Obj} {b m : Nat} {k : Value → Prop} {l : List Value} {T : TypeId} {fz : Nat × Nat} (hb : (b, Obj.cells l.toArray T fz) ∈ G) (hl : l.length = m) (hk : k (.agg l.toArray)) : LdN h (x :: (G ++ tl)) ⟨b, 0, none⟩ m k :=
  LdN.mem (List.mem_cons_of_mem _ (List.mem_append_left _ hb)) hl hk
end Go.Vc
