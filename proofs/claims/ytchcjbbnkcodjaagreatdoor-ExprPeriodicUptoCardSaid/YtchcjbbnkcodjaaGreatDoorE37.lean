/- Binds in memory; the document's subst; Swap's law. -/
import Derived.Test.YtchcjbbnkcodjaaGreatDoorE35
set_option linter.unusedVariables false
set_option linter.unusedSimpArgs false
namespace Go.Vc
open Go Go.Dig
theorem Ld.tl {h : Heap} {A F tl : Own} {b off : Nat} {k : Value → Prop} {l : List Value} {T : TypeId} {v : Value} (hv : l[off]? = some v) (hk : k v) : Ld h (A ++ (F ++ (b, .cells l.toArray T (0, 0)) :: tl)) ⟨b, off, none⟩ k :=
  ⟨v, ⟨rfl, l.toArray, T, (0, 0), .inr (by simp), by simpa using hv⟩, hk⟩
end Go.Vc
namespace Go.Proofs.YtchcjbbnkcodjaaGreatDoor
open Go Go.Vc Go.Dig
def IsBs (h : Heap) (c : Array Value) : Nat → List (List Nat × Tr) → Prop
  | _, [] => True
  | off, (n, t) :: bs => (c[off]? = some (.string (txt n)) ∧ (∀ y ∈ n, y < 256) ∧ ∃ vs, vs.length = 7 ∧ (∀ i, i < 7 → c[off + 1 + i]? = vs[i]?) ∧ IsE h vs t) ∧ IsBs h c (off + 8) bs
structure IsB (h : Heap) (s : Sl) (bs : List (List Nat × Tr)) : Prop where
  len : s.l = bs.length
  cap : s.l ≤ s.c
  mem : bs = [] ∨ ∃ bl off c T fz, s.a = some ⟨bl, off, none⟩ ∧ h bl = some (.cells c T fz) ∧ IsBs h c off bs
theorem IsBs.up {h h' : Heap} (hl : h.le h') {c : Array Value} : ∀ {bs : List (List Nat × Tr)} {off : Nat}, IsBs h c off bs → IsBs h' c off bs
  | [], _, _ => trivial
  | (_, _) :: _, _, ⟨⟨h1, h2, vs, h3, h4, h5⟩, r⟩ => ⟨⟨h1, h2, vs, h3, h4, h5.mono hl⟩, IsBs.up hl r⟩
theorem IsB.mono {h h' : Heap} {s : Sl} {bs : List (List Nat × Tr)} (w : IsB h s bs) (hl : h.le h') : IsB h' s bs :=
  ⟨w.len, w.cap, w.mem.elim .inl fun ⟨bl, off, c, T, fz, k1, k2, k3⟩ => .inr ⟨bl, off, c, T, fz, k1, hl _ _ k2, IsBs.up hl k3⟩⟩
theorem IsBs.get {h : Heap} {c : Array Value} : ∀ {bs : List (List Nat × Tr)} {off j : Nat} {n : List Nat} {t : Tr}, IsBs h c off bs → bs[j]? = some (n, t) →
    c[off + j * 8]? = some (.string (txt n)) ∧ (∀ y ∈ n, y < 256) ∧ ∃ vs, vs.length = 7 ∧ (∀ i, i < 7 → c[off + j * 8 + 1 + i]? = vs[i]?) ∧ IsE h vs t
  | [], _, _, _, _, _, e => by simp at e
  | (n', t') :: bs, off, 0, n, t, w, e => by
    simp at e
    obtain ⟨rfl, rfl⟩ := e
    rw [Nat.zero_mul, Nat.add_zero]
    exact w.1
  | (n', t') :: bs, off, j + 1, n, t, w, e => by
    have := IsBs.get (j := j) w.2 (by simpa using e)
    rw [show off + 8 + j * 8 = off + (j + 1) * 8 by omega] at this
    exact this
theorem Idx.bind {h : Heap} {s : Sl} {bs : List (List Nat × Tr)} (w : IsB h s bs) {i : Int} {k : Addr → Prop} (j : Nat) (n : List Nat) (t : Tr) (hi : i = j) (ht : bs[j]? = some (n, t))
    (hk : ∀ (bl off : Nat) (op arg : Int) (neg : Bool) (a b : Sl) (name : List Nat) (s' : Sl), (∀ y ∈ n, y < 256) → IsE h [.int .i64 op, .int .i64 arg, .bool neg, a.val, b.val, .string (txt name), s'.val] t →
      (∀ h' L, h.le h' → Has h' L ⟨bl, off, none⟩ (.string (txt n))) → (∀ h' L (i : Nat) v, h.le h' → [.int .i64 op, .int .i64 arg, .bool neg, a.val, b.val, .string (txt name), s'.val][i]? = some v → Has h' L ⟨bl, off + 1 + i, none⟩ v) → k ⟨bl, off, none⟩) : Idx s.a i s.l 8 k := by
  obtain ⟨hj, -⟩ := List.getElem?_eq_some_iff.1 ht
  rcases w.mem with e | ⟨bl, off, c, T, fz, e1, e2, e3⟩
  · subst e; simp at ht
  · obtain ⟨g1, g2, vs, h1, h2, h3⟩ := IsBs.get e3 ht
    obtain ⟨op, arg, neg, l, m, name, ks⟩ := t
    have h3' := h3
    rw [IsE] at h3
    obtain ⟨a, b, s', rfl, -⟩ := h3
    refine Idx.of j e1 hi (by rw [w.len]; exact hj) ?_
    refine hk bl (off + j * 8) op arg neg a b name s' g2 h3' (fun h' L hl => Has.imm (hl _ _ e2) g1) fun h' L i v hl hv => Has.imm (hl _ _ e2) ?_
    have hi7 : i < 7 := (List.getElem?_eq_some_iff.1 hv).1
    rw [h2 i hi7, hv]
theorem LdN.has7 {h : Heap} {L : Own} {b o : Nat} {k : Value → Prop} (vs : List Value) (hl : vs.length = 7) (hv : ∀ (i : Nat) v, vs[i]? = some v → Has h L ⟨b, o + i, none⟩ v) (hk : k (.agg vs.toArray)) : LdN h L ⟨b, o, none⟩ 7 k :=
  ⟨vs, hl, fun i hi => by
    rw [add_lit]
    exact hv i _ (by rw [List.getD_eq_getElem?_getD, List.getElem?_eq_getElem (by omega)]; rfl), hk⟩
set_option maxRecDepth 20000 in
set_option maxHeartbeats 2000000 in
theorem subst_ct (bs : List (List Nat × Tr)) (hbl : bs.length ≤ 1099511627776) (sb : Sl) : ∀ t : Tr, ∀ (h : Heap) (vs : List Value) (d : Nat), IsB h sb bs → IsE h vs t → okT d t → Fn0 T F.ref04_subst [.agg vs.toArray, sb.val] h fun v h' => VE h' v (rplT (byR bs) t) := by
  refine tree_ind fun t ih => ?_
  intro h vs d wb w hok
  obtain ⟨op, arg, neg, l, m, name, ks⟩ := t
  obtain ⟨a, b, s, rfl, ho, ha, hv, hb, hk⟩ := w.isK
  rw [okT] at hok
  obtain ⟨hd, hnb, hoks⟩ := hok
  have hks : ks.length ≤ 3 := by
    have h1 := hnb.1
    have h2 := kidsN_le op
    omega
  have hkl := hk.len
  have hsl := wb.len
  have r1 : op = 2 → rplT (byR bs) (.mk op arg neg l m name ks) = getB bs name (.mk op arg neg l m name ks) := fun e => rplT_some (if_pos e)
  have r2 : ¬ op = 2 → rplT (byR bs) (.mk op arg neg l m name ks) = .mk op arg neg l m name (rplTs (byR bs) ks) := fun e => rplT_none (if_neg e)
  obtain ⟨R, hR⟩ : ∃ R, R = rplT (byR bs) (.mk op arg neg l m name ks) := ⟨_, rfl⟩
  rw [← hR] at r1 r2 ⊢
  clear hR
  refine fn0_of_codeI ok D.ref04_subst rfl ?_
  conv => whnf
  repeat ((first | refine opsI.step ?_ | refine codeI.step ?_); conv => whnf)
  repeat' first | (show LdN _ _ _ _ _; first | (refine LdN.ownAt 1 rfl rfl ?_; conv => whnf)) | ((first | refine opsI.step ?_ | refine codeI.step ?_); conv => whnf) | (intro (_ : Nat); conv => whnf) | (refine cnd_eq (fun _ => ?_) (fun _ => ?_) <;> first | (exfalso; omega) | (conv => whnf)) | (refine Ld.own 1 rfl rfl ?_; conv => whnf) | (refine Sto.lit 0 rfl rfl rfl ?_; conv => whnf)
  · rename_i be bz hop
    refine LoopN.of (fun r ρ hx L => ∃ j : Nat, r = bs.length - j ∧ h.le hx ∧ j ≤ bs.length ∧ rd ρ 5 = .int .i64 j ∧
      L = [(bz, .cells [.int .i64 0, .int .i64 0, .bool false, .slice none 0 0, .slice none 0 0, .string (txt []), .slice none 0 0].toArray Ty.api_Expr (0, 0)), (be, .cells [.int .i64 op, .int .i64 arg, .bool neg, a.val, b.val, .string (txt name), s.val].toArray Ty.api_Expr (0, 0))] ∧ Hq (getB bs name (.mk op arg neg l m name ks) = getB (bs.drop j) name (.mk op arg neg l m name ks))) bs.length
      ⟨0, rfl, Heap.le_refl _, Nat.zero_le _, rfl, rfl, ⟨rfl⟩⟩ ?_
    conv => whnf
    repeat intro _
    rename_i r hx L2 hI
    obtain ⟨j, rfl, hle, hj, e5, rfl, hq⟩ := hI
    conv at e5 => lhs; whnf
    subst e5
    have wx := w.mono hle
    by_cases hjl : j = bs.length
    · subst hjl
      have hr : R = (.mk op arg neg l m name ks) := by rw [r1 hop, hq.out, List.drop_length, getB]
      conv => whnf
      repeat ((first | refine opsI.step ?_ | refine codeI.step ?_); conv => whnf)
      repeat' first | (show LdN _ _ _ _ _; first | (refine LdN.ownAt 1 rfl rfl ?_; conv => whnf) | (refine LdN.own 0 rfl rfl ?_; conv => whnf)) | ((first | refine opsI.step ?_ | refine codeI.step ?_); conv => whnf) | (refine cnd_lt (fun _ => ?_) (fun _ => ?_) <;> first | (exfalso; omega) | (conv => whnf)) | (refine Sto.lit 0 rfl rfl rfl ?_; conv => whnf)
      rw [hr]
      exact RetN.all ⟨op, arg, neg, a, b, name, s, rfl, wx⟩
    · obtain ⟨⟨n, u⟩, hu⟩ : ∃ x, bs[j]? = some x := ⟨_, List.getElem?_eq_getElem (by omega)⟩
      have hdr : bs.drop j = (n, u) :: bs.drop (j + 1) := by
        obtain ⟨h1, h2⟩ := List.getElem?_eq_some_iff.1 hu
        rw [List.drop_eq_getElem_cons h1, h2]
      have hq2 := hq.out
      rw [hdr, getB] at hq2
      have hr1 : n = name → R = u := fun e => by rw [r1 hop, hq2, if_pos e]
      have hr2 : ¬ n = name → getB bs name (.mk op arg neg l m name ks) = getB (bs.drop (j + 1)) name (.mk op arg neg l m name ks) := fun e => by rw [hq2, if_neg e]
      replace hr2 := Hq.mk hr2
      have wbx := wb.mono hle
      clear hq hq2
      conv => whnf
      repeat ((first | refine opsI.step ?_ | refine codeI.step ?_); conv => whnf)
      repeat' first | (show Idx _ _ _ _ _; first | (refine Idx.bind wbx j n u (by omega) hu (fun bl off op2 arg2 neg2 a2 b2 name2 s2 hnn hE h1 h2 => ?_); conv => whnf)) | (show Ld _ _ _ _; first | (refine Ld.of (h1 _ _ (Heap.le_refl _)) ?_; conv => whnf) | (refine Ld.own 1 rfl rfl ?_; conv => whnf)) | (show LdN _ _ _ _ _; first | (refine LdN.has7 _ rfl (fun i v hv => h2 _ _ i v (Heap.le_refl _) hv) ?_; conv => whnf) | (refine LdN.own 0 rfl rfl ?_; conv => whnf)) | (show cnd _ _ _; first | (refine cnd_txt hnn hb (fun _ => ?_) (fun _ => ?_) <;> (conv => whnf)) | (refine cnd_lt (fun _ => ?_) (fun _ => ?_) <;> first | (exfalso; omega) | (conv => whnf))) | ((first | refine opsI.step ?_ | refine codeI.step ?_); conv => whnf) | (refine WrapN.i64 (by omega) (by omega) ?_; conv => whnf) | (refine Sto.lit 0 rfl rfl rfl ?_; conv => whnf) | (refine DrawN.run (by decide +kernel) ?_; conv => whnf)
      · rw [hr1 (by assumption)]
        exact RetN.all ⟨op2, arg2, neg2, a2, b2, name2, s2, rfl, hE⟩
      · exact ⟨rfl, bs.length - (j + 1), by omega, j + 1, rfl, (by assumption), by omega, vi (by omega), rfl, ⟨hr2.out (by assumption)⟩⟩
  · rename_i be bz hop bo
    rw [r2 hop]
    clear r1 r2
    refine LoopN.of (fun r ρ hx L => ∃ (j : Nat) (V : Value) (F1 : Own) (xs : List Value), r = ks.length - j ∧ h.le hx ∧ j ≤ ks.length ∧ rd ρ 7 = .int .i64 j ∧
      L = F1 ++ ((bo, .cells [.int .i64 op, .int .i64 arg, .bool neg, a.val, b.val, .string (txt name), V].toArray Ty.api_Expr (0, 0)) :: (bz, .cells [.int .i64 0, .int .i64 0, .bool false, .slice none 0 0, .slice none 0 0, .string (txt []), .slice none 0 0].toArray Ty.api_Expr (0, 0)) :: (be, .cells [.int .i64 op, .int .i64 arg, .bool neg, a.val, b.val, .string (txt name), s.val].toArray Ty.api_Expr (0, 0)) :: []) ∧
      GrowS Ty.api_Expr 7 V j xs F1 ∧ KC hx xs (rplTs (byR bs) (ks.take j))) ks.length
      ⟨0, _, [], [], rfl, Heap.le_refl _, Nat.zero_le _, rfl, rfl, GrowS.nil _ _ _, by rw [List.take_zero, rplTs]; rfl⟩ ?_
    conv => whnf
    repeat intro _
    rename_i r hx L2 hI
    obtain ⟨j, V, F1, xs, rfl, hle, hj, e7, rfl, gF, hK⟩ := hI
    conv at e7 => lhs; whnf
    subst e7
    obtain ⟨sv, rfl⟩ := gF.sl
    by_cases hjl : j = ks.length
    · subst hjl
      rw [List.take_length] at hK
      conv => whnf
      repeat ((first | refine opsI.step ?_ | refine codeI.step ?_); conv => whnf)
      repeat' first | (show Ld _ _ _ _; first | (refine Ld.tl (A := F1) (F := [_, _]) rfl ?_; conv => whnf)) | (show LdN _ _ _ _ _; first | (refine LdN.tl (A := []) (F := F1) rfl ?_; conv => whnf) | (refine LdN.tl (A := F1) (F := [_]) rfl ?_; conv => whnf)) | (show Sto _ _ _ _; first | (refine Sto.tl (A := F1) (X := [_]) rfl rfl ?_; conv => whnf)) | ((first | refine opsI.step ?_ | refine codeI.step ?_); conv => whnf) | (refine cnd_lt (fun _ => ?_) (fun _ => ?_) <;> first | (exfalso; omega) | (conv => whnf))
      refine RetN.rowA (X := F1) gF hK (rplTs_len (byR bs) ks).symm fun h'' s' hl hs hk' => ?_
      rw [hs]
      exact ⟨op, arg, neg, a, b, name, s', rfl, IsE.mkK ho ha (by (iterate 30 (try first | assumption | refine IsVal.mono ?_ (by assumption))); first | done | assumption) hb hk'⟩
    · obtain ⟨t, ht⟩ : ∃ t, ks[j]? = some t := ⟨_, List.getElem?_eq_getElem (by omega)⟩
      have c2 := fun h vs wb w => ih t (szT_kid ht) h vs (d + 1) wb w (okTs_mem hoks (List.mem_of_getElem? ht))
      have hkx := hk.mono hle
      have wbx := wb.mono hle
      conv => whnf
      repeat ((first | refine opsI.step ?_ | refine codeI.step ?_); conv => whnf)
      repeat' first | (show Ld _ _ _ _; first | (refine Ld.tl (A := F1) (F := [_, _]) rfl ?_; conv => whnf) | (refine Ld.tl (A := [_]) (F := F1) rfl ?_; conv => whnf)) | (show Idx _ _ _ _ _; first | (refine Idx.kid hkx j t (by omega) ht (fun ad op3 arg3 neg3 a3 b3 name3 s3 hE hld => ?_); conv => whnf)) | (refine hld _ _ _ (Heap.le_refl _) ?_; conv => whnf) | ((first | refine opsI.step ?_ | refine codeI.step ?_); conv => whnf) | (intro (_ : Nat); conv => whnf) | (show CallN _ _ _ _ _ _; first | (refine CallN.fn rfl (c2 _ _ wbx (by assumption)) (fun v h' hl2 hr => ?_); obtain ⟨op4, ar4, ng4, nn4, dd4, nm4, ss4, rfl, hE2⟩ := hr; have hK2 := hK.mono hl2; conv => whnf)) | (show App _ _ _ _ _ _ _ _ _; first | (refine App.growK (A := [_, _]) (F := F1) (size := 7) (bytes := 112) (z := [.int .i64 0, .int .i64 0, .bool false, .slice none 0 0, .slice none 0 0, .string (txt []), .slice none 0 0]) rfl rfl gF ⟨_, 0, none⟩ 1 1 [_, _, _, _, _, _, _] rfl (Has.front _) rfl (by decide) (by omega) (by omega) (by decide) (fun v' F' g' => ?_); obtain ⟨sv', rfl⟩ := g'.sl; conv => whnf)) | (show Sto _ _ _ _; first | (refine Sto.tl (A := [_, _]) (X := F') rfl rfl ?_; conv => whnf) | (refine Sto.lit 0 rfl rfl rfl ?_; conv => whnf)) | (refine WrapN.i64 (by omega) (by omega) ?_; conv => whnf) | (refine cnd_lt (fun _ => ?_) (fun _ => ?_) <;> first | (exfalso; omega) | (conv => whnf)) | (refine LdN.own 0 rfl rfl ?_; conv => whnf)
      exact ⟨rfl, ks.length - (j + 1), by omega, j + 1, _, _ :: _ :: F', _, rfl, (by (iterate 30 (try first | assumption | refine Heap.le_trans ?_ (by assumption))); first | done | assumption), by omega, vi (by omega), rfl, (g'.cons _).cons _, by rw [take_snoc ht, rplTs_append, rplTs, rplTs]; exact KC.snoc rfl hE2 hK2⟩
set_option maxRecDepth 20000 in
set_option maxHeartbeats 1000000 in
theorem RSwap_ct (t : Tr) (na nb : List Nat) (h : Heap) (vs : List Value) (w : IsE h vs t) (hna : ∀ y ∈ na, y < 256) (hnb : ∀ y ∈ nb, y < 256) : Fn0 T F.ref04_Swap [.agg vs.toArray, .string (txt na), .string (txt nb)] h fun v h' => ResT h' v (swapY na nb t) := by
  have c1 := fun h w => RValid_ct t h vs w
  have c2 := fun h => RIsName_any h na hna
  have c3 := fun h => RIsName_any h nb hnb
  have c4 := fun h sb wb w (x : ValT t) => subst_ct (swB na nb) (show (swB na nb).length ≤ 1099511627776 from Nat.le_of_ble_eq_true rfl) sb t h vs 1 wb w x.1
  have r1 : ¬ ValT t → swapY na nb t = (zeroT, 40) := fun x => if_pos x
  have r2 : ValT t → ¬ IsNm na → swapY na nb t = (zeroT, 41) := fun x y => by unfold swapY; rw [if_neg (show ¬ ¬ ValT t from fun z => z x), if_pos fun z => y z.1]
  have r3 : ValT t → ¬ IsNm nb → swapY na nb t = (zeroT, 41) := fun x y => by unfold swapY; rw [if_neg (show ¬ ¬ ValT t from fun z => z x), if_pos fun z => y z.2]
  have r4 : ValT t → IsNm na → IsNm nb → swapY na nb t = (rplT (byR (swB na nb)) t, 0) := fun x y z => swapY_ok x ⟨y, z⟩
  have wB : ∀ (h : Heap) (bl : Nat) (T : TypeId) (fz : Nat × Nat), h bl = some (.cells [.string (txt na), .int .i64 2, .int .i64 0, .bool false, .slice none 0 0, .slice none 0 0, .string (txt nb), .slice none 0 0, .string (txt nb), .int .i64 2, .int .i64 0, .bool false, .slice none 0 0, .slice none 0 0, .string (txt na), .slice none 0 0].toArray T fz) → IsB h ⟨some ⟨bl, 0, none⟩, 2, 2⟩ (swB na nb) := fun h bl T fz e =>
    ⟨rfl, Nat.le_refl _, .inr ⟨bl, 0, _, T, fz, rfl, e, ⟨rfl, hna, _, rfl, fun i hi => by
      match i, hi with
      | 0, _ => rfl
      | 1, _ => rfl
      | 2, _ => rfl
      | 3, _ => rfl
      | 4, _ => rfl
      | 5, _ => rfl
      | 6, _ => rfl, IsE.var hnb⟩, ⟨rfl, hnb, _, rfl, fun i hi => by
      match i, hi with
      | 0, _ => rfl
      | 1, _ => rfl
      | 2, _ => rfl
      | 3, _ => rfl
      | 4, _ => rfl
      | 5, _ => rfl
      | 6, _ => rfl, IsE.var hna⟩, trivial⟩⟩
  obtain ⟨R, hR⟩ : ∃ R, R = swapY na nb t := ⟨_, rfl⟩
  obtain ⟨P, hP⟩ : ∃ P, P = rplT (byR (swB na nb)) t := ⟨_, rfl⟩
  rw [← hR] at r1 r2 r3 r4 ⊢
  rw [← hP] at c4 r4
  obtain ⟨⟨op, arg, neg, l, m, name, ks⟩, ht⟩ : ∃ x, x = t := ⟨_, rfl⟩
  obtain ⟨a, b, s, hvs, -⟩ := (ht.symm ▸ w : IsE h vs (.mk op arg neg l m name ks)).isK
  subst hvs
  refine fn0_of_codeI ok D.ref04_Swap rfl ?_
  conv => whnf
  repeat ((first | refine opsI.step ?_ | refine codeI.step ?_); conv => whnf)
  repeat' first | (show CallN _ _ _ _ _ _; first | (refine CallN.fn rfl (c1 _ (by assumption)) (fun v h' hl2 hr => ?_); subst hr; conv => whnf) | (refine CallN.fn rfl (c2 _) (fun v h' hl2 hr => ?_); subst hr; conv => whnf) | (refine CallN.fn rfl (c3 _) (fun v h' hl2 hr => ?_); subst hr; conv => whnf) | (refine CallN.keep0 rfl (fun h' hl2 mb => ?_); refine CallN.fn rfl (c4 _ ⟨some ⟨_, 0, none⟩, 2, 2⟩ (wB _ _ _ _ mb) (by (iterate 30 (try first | assumption | refine IsE.mono ?_ (by assumption))); first | done | assumption) (by assumption)) (fun v h'' hl3 hr => ?_); obtain ⟨op2, ar2, ng2, nn2, dd2, nm2, ss2, rfl, hE2⟩ := hr; conv => whnf)) | ((first | refine opsI.step ?_ | refine codeI.step ?_); conv => whnf) | (intro (_ : Nat); conv => whnf) | (show cnd _ _ _; first | (refine cnd_not ?_) | (refine cnd_dec (fun _ => ?_) (fun _ => ?_) <;> first | (exfalso; omega) | (conv => whnf))) | (show LdN _ _ _ _ _; first | (refine LdN.own 0 rfl rfl ?_; conv => whnf) | (refine LdN.own 1 rfl rfl ?_; conv => whnf) | (refine LdN.own 2 rfl rfl ?_; conv => whnf) | (refine LdN.own 3 rfl rfl ?_; conv => whnf)) | (show Sto _ _ _ _; first | (refine Sto.lit 0 rfl rfl rfl ?_; conv => whnf) | (refine Sto.lit 2 rfl rfl rfl ?_; conv => whnf))
  all_goals first
    | (rw [r1 (by assumption)]; exact RetN.all ⟨_, rfl, VE.zero _⟩)
    | (rw [r2 (by assumption) (by assumption)]; exact RetN.all ⟨_, rfl, VE.zero _⟩)
    | (rw [r3 (by assumption) (by assumption)]; exact RetN.all ⟨_, rfl, VE.zero _⟩)
    | (rw [r4 (by assumption) (by assumption) (by assumption)]; exact RetN.all ⟨_, rfl, op2, ar2, ng2, nn2, dd2, nm2, ss2, rfl, hE2⟩)
attribute [local irreducible] Vc.Fn
set_option maxRecDepth 20000 in
set_option maxHeartbeats 1000000 in
theorem Swap_law (h : Heap) (tb : Tb h) (pw : Pw h) (t : Tr) (vs : List Value) (w : IsE h vs t) (sa : ByteArray) (hsa : sa.size ≤ maxLen) (sb : ByteArray) (hsb : sb.size ≤ maxLen) : Fn0 T F.law04_ExprSwap [.agg vs.toArray, .string sa, .string sb] h fun v h' => v = .bool true := by
  obtain ⟨na, hla⟩ : ∃ l, l = rl sa := ⟨_, rfl⟩
  have hna : ∀ y ∈ na, y < 256 := by rw [hla]; exact rl_lt sa
  obtain rfl : sa = txt na := by rw [hla, txt_rl]
  obtain ⟨nb, hlb⟩ : ∃ l, l = rl sb := ⟨_, rfl⟩
  have hnb : ∀ y ∈ nb, y < 256 := by rw [hlb]; exact rl_lt sb
  obtain rfl : sb = txt nb := by rw [hlb, txt_rl]
  clear hla hlb hsa hsb
  have c1 := fun h tb w => Swap_ct t na nb h vs tb w hna hnb
  have c2 := fun h w => RSwap_ct t na nb h vs w hna hnb
  have ag := swap_agree na nb t
  have tw := swap_twice (a := na) (b := nb) (t := t)
  obtain ⟨⟨X, x⟩, hX⟩ : ∃ X, X = swapX na nb t := ⟨_, rfl⟩
  obtain ⟨⟨Y, y⟩, hY⟩ : ∃ X, X = swapY na nb t := ⟨_, rfl⟩
  rw [← hX] at c1 ag tw
  rw [← hY] at c2 ag
  replace c1 : ∀ h, Tb h → IsE h vs t → Fn0 T F.expr_Swap [.agg vs.toArray, .string (txt na), .string (txt nb)] h fun v h' => ∃ a, v = .tuple #[a, .int .i64 x] ∧ VE h' a X := c1
  replace c2 : ∀ h, IsE h vs t → Fn0 T F.ref04_Swap [.agg vs.toArray, .string (txt na), .string (txt nb)] h fun v h' => ∃ a, v = .tuple #[a, .int .i64 y] ∧ VE h' a Y := c2
  replace tw : x = 0 → ValT t ∧ ∃ u, swapX na nb X = (u, 0) ∧ okT 1 u ∧ sameB u t = true := tw
  have c3 := fun h us vs w w' => agrees_ct X Y x y ag h us vs w w'
  have c4 := fun h us tb w => Swap_ct X na nb h us tb w hna hnb
  have c5 := fun h tb pw => sane_ct h tb pw
  have c6 := fun u h us (v : ValT t) (o : okT 1 u) (e : sameB u t = true) w w' => e ▸ Same_ct u t h us vs 1 1 w w' o v.1
  clear hX hY ag
  obtain ⟨⟨op, arg, neg, l, m, name, ks⟩, ht⟩ : ∃ x, x = t := ⟨_, rfl⟩
  obtain ⟨a, b, s, hvs, -⟩ := (ht.symm ▸ w : IsE h vs (.mk op arg neg l m name ks)).isK
  subst hvs
  by_cases hx0 : x = 0
  · obtain ⟨hval, u, e1, e2, e3⟩ := tw hx0
    rw [e1] at c4
    replace c4 : ∀ h us, Tb h → IsE h us X → Fn0 T F.expr_Swap [.agg us.toArray, .string (txt na), .string (txt nb)] h fun v h' => ∃ a, v = .tuple #[a, .int .i64 (0 : Nat)] ∧ VE h' a u := c4
    refine fn0_of_codeI ok D.law04_ExprSwap rfl ?_
    conv => whnf
    repeat ((first | refine opsI.step ?_ | refine codeI.step ?_); conv => whnf)
    repeat' first | (show CallN _ _ _ _ _ _; first | (refine CallN.fn rfl (c1 _ (by assumption) (by assumption)) (fun v h' hl2 hr => ?_); obtain ⟨_, rfl, op2, ar2, ng2, nn2, dd2, nm2, ss2, rfl, hE2⟩ := hr; conv => whnf) | (refine CallN.fn rfl (c2 _ (by (iterate 30 (try first | assumption | refine IsE.mono ?_ (by assumption))); first | done | assumption)) (fun v h' hl2 hr => ?_); obtain ⟨_, rfl, op3, ar3, ng3, nn3, dd3, nm3, ss3, rfl, hE3⟩ := hr; conv => whnf) | (refine CallN.fn rfl (c3 _ _ _ (by (iterate 30 (try first | assumption | refine IsE.mono ?_ (by assumption))); first | done | assumption) (by assumption)) (fun v h' hl2 hr => ?_); subst hr; conv => whnf) | (refine CallN.fn rfl (c4 _ _ (by (iterate 30 (try first | assumption | refine Tb.mono ?_ (by assumption))); first | done | assumption) (by (iterate 30 (try first | assumption | refine IsE.mono ?_ (by assumption))); first | done | assumption)) (fun v h' hl2 hr => ?_); obtain ⟨_, rfl, op4, ar4, ng4, nn4, dd4, nm4, ss4, rfl, hE4⟩ := hr; conv => whnf) | (refine CallN.fn rfl (c6 u _ _ hval e2 e3 (by assumption) (by (iterate 30 (try first | assumption | refine IsE.mono ?_ (by assumption))); first | done | assumption)) (fun v h' hl2 hr => ?_); subst hr; conv => whnf) | (refine CallN.fn rfl (c5 _ (by (iterate 30 (try first | assumption | refine Tb.mono ?_ (by assumption))); first | done | assumption) (by iterate 9 (try first | assumption | refine Pw.mono ?_ (by assumption)))) (fun v h' hl2 hr => ?_); subst hr; conv => whnf)) | ((first | refine opsI.step ?_ | refine codeI.step ?_); conv => whnf) | (intro (_ : Nat); conv => whnf) | (show cnd _ _ _; first | (refine cnd_eq (fun _ => ?_) (fun _ => ?_) <;> first | (exfalso; omega) | (conv => whnf)) | (refine cnd_not ?_)) | (show LdN _ _ _ _ _; first | (refine LdN.own 0 rfl rfl ?_; conv => whnf) | (refine LdN.own 1 rfl rfl ?_; conv => whnf) | (refine LdN.own 3 rfl rfl ?_; conv => whnf)) | (refine Sto.lit 0 rfl rfl rfl ?_; conv => whnf)
    all_goals exact RetN.all rfl
  · clear tw c4 c6
    refine fn0_of_codeI ok D.law04_ExprSwap rfl ?_
    conv => whnf
    repeat ((first | refine opsI.step ?_ | refine codeI.step ?_); conv => whnf)
    repeat' first | (show CallN _ _ _ _ _ _; first | (refine CallN.fn rfl (c1 _ (by assumption) (by assumption)) (fun v h' hl2 hr => ?_); obtain ⟨_, rfl, op2, ar2, ng2, nn2, dd2, nm2, ss2, rfl, hE2⟩ := hr; conv => whnf) | (refine CallN.fn rfl (c2 _ (by (iterate 30 (try first | assumption | refine IsE.mono ?_ (by assumption))); first | done | assumption)) (fun v h' hl2 hr => ?_); obtain ⟨_, rfl, op3, ar3, ng3, nn3, dd3, nm3, ss3, rfl, hE3⟩ := hr; conv => whnf) | (refine CallN.fn rfl (c3 _ _ _ (by (iterate 30 (try first | assumption | refine IsE.mono ?_ (by assumption))); first | done | assumption) (by assumption)) (fun v h' hl2 hr => ?_); subst hr; conv => whnf) | (refine CallN.fn rfl (c5 _ (by (iterate 30 (try first | assumption | refine Tb.mono ?_ (by assumption))); first | done | assumption) (by iterate 9 (try first | assumption | refine Pw.mono ?_ (by assumption)))) (fun v h' hl2 hr => ?_); subst hr; conv => whnf)) | ((first | refine opsI.step ?_ | refine codeI.step ?_); conv => whnf) | (intro (_ : Nat); conv => whnf) | (show cnd _ _ _; first | (refine cnd_eq (fun _ => ?_) (fun _ => ?_) <;> first | (exfalso; omega) | (conv => whnf)) | (refine cnd_not ?_)) | (show LdN _ _ _ _ _; first | (refine LdN.own 0 rfl rfl ?_; conv => whnf) | (refine LdN.own 1 rfl rfl ?_; conv => whnf)) | (refine Sto.lit 0 rfl rfl rfl ?_; conv => whnf)
    all_goals exact RetN.all rfl
end Go.Proofs.YtchcjbbnkcodjaaGreatDoor