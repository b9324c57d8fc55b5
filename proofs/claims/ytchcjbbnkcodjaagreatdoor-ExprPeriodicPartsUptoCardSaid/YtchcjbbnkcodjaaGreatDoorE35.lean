/- Nodes replaced: the program's replaced, Swap; the document's subst, Swap; the law. -/
import Derived.Test.YtchcjbbnkcodjaaGreatDoorE34
set_option linter.unusedVariables false
set_option linter.unusedSimpArgs false
namespace Go.Vc
open Go Go.Dig
theorem CallN.keep12 {T : Tab} {f : FuncId} {args : List Value} {h : Heap} {k : Value → Heap → Own → Prop} {x : Nat × Obj} {b c : Nat} {p q : Obj} {tl : Own} (hf : T.fn f = true)
    (hk : ∀ h', h.le h' → h' b = some p → h' c = some q → CallN T f args h' (x :: tl) k) : CallN T f args h (x :: (b, p) :: (c, q) :: tl) k :=
  CallN.keep 1 rfl hf fun h1 => CallN.keep 1 rfl hf fun h2 => hk _ (Heap.le_trans h1 h2) (h2 _ _ (by simp [Heap.put])) (by simp [Heap.put])
theorem CallN.keep0 {T : Tab} {f : FuncId} {args : List Value} {h : Heap} {k : Value → Heap → Own → Prop} {b : Nat} {p : Obj} {tl : Own} (hf : T.fn f = true)
    (hk : ∀ h', h.le h' → h' b = some p → CallN T f args h' tl k) : CallN T f args h ((b, p) :: tl) k :=
  CallN.keep 0 rfl hf fun h1 => hk _ h1 (by simp [Heap.put])
end Go.Vc
namespace Go.Proofs.YtchcjbbnkcodjaaGreatDoor
open Go Go.Vc Go.Dig
def ByC (fb : FuncId) (cap : List Value) (g : Tr → Option Tr) (h0 : Heap) : Prop :=
  ∀ (u : Tr) (d : Nat) (h : Heap) (vs : List Value), okT d u → h0.le h → IsE h vs u → Fn0 T fb (.agg vs.toArray :: cap) h fun v h' => ∃ a b x, v = .tuple #[a, .bool b] ∧ VE h' a x ∧ (b = true → g u = some x) ∧ (b = false → g u = none)
set_option maxRecDepth 20000 in
set_option maxHeartbeats 2000000 in
theorem replaced2_ct {fb : FuncId} {x y : Value} {g : Tr → Option Tr} (hf : T.fn fb = true) (h0 : Heap) (hby : ByC fb [x, y] g h0) : ∀ t : Tr, ∀ (h : Heap) (vs : List Value) (d : Nat), h0.le h → IsE h vs t → okT d t → Fn0 T F.expr_replaced [.agg vs.toArray, .func (.func fb) #[] #[x, y]] h fun v h' => VE h' v (rplT g t) := by
  refine tree_ind fun t ih => ?_
  intro h vs d h0l w hok
  obtain ⟨op, arg, neg, l, m, name, ks⟩ := t
  have c1 := fun h h0l w => hby _ d h vs hok h0l w
  obtain ⟨a, b, s, rfl, ho, ha, hv, hb, hk⟩ := w.isK
  rw [okT] at hok
  obtain ⟨hd, hnb, hoks⟩ := hok
  have hks : ks.length ≤ 3 := by
    have h1 := hnb.1
    have h2 := kidsN_le op
    omega
  have hkl := hk.len
  have r1 : ∀ u, g (.mk op arg neg l m name ks) = some u → rplT g (.mk op arg neg l m name ks) = u := fun u e => rplT_some e
  have r2 : g (.mk op arg neg l m name ks) = none → rplT g (.mk op arg neg l m name ks) = .mk op arg neg l m name (rplTs g ks) := rplT_none
  obtain ⟨R, hR⟩ : ∃ R, R = rplT g (.mk op arg neg l m name ks) := ⟨_, rfl⟩
  obtain ⟨G, hG⟩ : ∃ G, G = g (.mk op arg neg l m name ks) := ⟨_, rfl⟩
  rw [← hR] at r1 r2 ⊢
  rw [← hG] at c1 r1 r2
  clear hR hG
  refine fn0_of_codeI ok D.expr_replaced rfl ?_
  conv => whnf
  repeat ((first | refine opsI.step ?_ | refine codeI.step ?_); conv => whnf)
  repeat' first | (show LdN _ _ _ _ _; first | (first | refine LdN.own 0 rfl rfl ?_ | refine LdN.ownAt 0 rfl rfl ?_; conv => whnf) | (refine LdN.own 1 rfl rfl ?_; conv => whnf)) | (show CallN _ _ _ _ _ _; first | (refine CallN.fn hf (c1 _ (by first | assumption | exact Heap.le_trans h0l (by assumption)) (by assumption)) (fun v h' hl2 hr => ?_); obtain ⟨_, bb, u, rfl, ⟨op2, ar2, ng2, nn2, dd2, nm2, ss2, rfl, hE2⟩, g1, g2⟩ := hr; conv => whnf)) | ((first | refine opsI.step ?_ | refine codeI.step ?_); conv => whnf) | (intro (_ : Nat); conv => whnf) | (refine cnd_bool (fun hb => ?_) (fun hb => ?_) <;> (first | cases hb | subst hb) <;> (conv => whnf)) | (refine Ld.own 2 rfl rfl ?_; conv => whnf) | (show Sto _ _ _ _; first | (refine Sto.lit 0 rfl rfl rfl ?_; conv => whnf) | (refine Sto.lit 1 rfl rfl rfl ?_; conv => whnf))
  · rw [r1 _ (g1 rfl)]
    exact RetN.all ⟨op2, ar2, ng2, nn2, dd2, nm2, ss2, rfl, hE2⟩
  · rw [r2 (g2 rfl)]
    clear r1 r2 g1 g2
    rename_i be bz bn
    have h0l' := Heap.le_trans h0l hl2
    refine LoopN.of (fun r ρ hx L => ∃ (j : Nat) (V : Value) (F1 : Own) (xs : List Value), r = ks.length - j ∧ h'.le hx ∧ j ≤ ks.length ∧ rd ρ 21 = .int .i64 j ∧ rd ρ 7 = V ∧
      L = F1 ++ ((bn, .cells [.int .i64 op2, .int .i64 ar2, .bool ng2, nn2.val, dd2.val, .string (txt nm2), ss2.val].toArray Ty.api_Expr (0, 0)) :: (bz, .cells [.int .i64 0, .int .i64 0, .bool false, .slice none 0 0, .slice none 0 0, .string (txt []), .slice none 0 0].toArray Ty.api_Expr (0, 0)) :: (be, .cells [.int .i64 op, .int .i64 arg, .bool neg, a.val, b.val, .string (txt name), s.val].toArray Ty.api_Expr (0, 0)) :: []) ∧
      GrowS Ty.api_Expr 7 V j xs F1 ∧ KC hx xs (rplTs g (ks.take j))) ks.length
      ⟨0, _, [], [], rfl, Heap.le_refl _, Nat.zero_le _, rfl, rfl, rfl, GrowS.nil _ _ _, by rw [List.take_zero, rplTs]; rfl⟩ ?_
    conv => whnf
    repeat intro _
    rename_i r hx L2 hI
    obtain ⟨j, V, F1, xs, rfl, hle, hj, e21, e7, rfl, gF, hK⟩ := hI
    conv at e21 => lhs; whnf
    subst e21
    conv at e7 => lhs; whnf
    subst e7
    by_cases hjl : j = ks.length
    · subst hjl
      rw [List.take_length] at hK
      obtain ⟨sv, rfl⟩ := gF.sl
      conv => whnf
      repeat ((first | refine opsI.step ?_ | refine codeI.step ?_); conv => whnf)
      repeat' first | (show Sto _ _ _ _; first | (refine Sto.tl (A := F1) (X := [_, _]) rfl rfl ?_; conv => whnf) | (refine Sto.tl (A := F1) (X := [_]) rfl rfl ?_; conv => whnf)) | (show LdN _ _ _ _ _; first | (refine LdN.tl (A := F1) (F := [_, _]) rfl ?_; conv => whnf) | (refine LdN.tl (A := F1) (F := [_]) rfl ?_; conv => whnf)) | ((first | refine opsI.step ?_ | refine codeI.step ?_); conv => whnf) | (refine cnd_lt (fun _ => ?_) (fun _ => ?_) <;> first | (exfalso; omega) | (conv => whnf))
      refine RetN.rowA (X := F1) gF hK (rplTs_len g ks).symm fun h'' s' hl hs hk' => ?_
      rw [hs]
      exact ⟨op, arg, neg, a, b, name, s', rfl, IsE.mkK ho ha (((hv.mono hl2).mono hle).mono hl) hb hk'⟩
    · obtain ⟨t, ht⟩ : ∃ t, ks[j]? = some t := ⟨_, List.getElem?_eq_getElem (by omega)⟩
      have c2 := fun h vs h0l w => ih t (szT_kid ht) h vs (d + 1) h0l w (okTs_mem hoks (List.mem_of_getElem? ht))
      have hkx := hk.mono (Heap.le_trans hl2 hle)
      have h0x := Heap.le_trans h0l' hle
      conv => whnf
      repeat ((first | refine opsI.step ?_ | refine codeI.step ?_); conv => whnf)
      repeat' first | (show Idx _ _ _ _ _; first | (refine Idx.kid hkx j t (by omega) ht (fun ad op3 arg3 neg3 a3 b3 name3 s3 hE hld => ?_); conv => whnf)) | (refine hld _ _ _ (Heap.le_refl _) ?_; conv => whnf) | ((first | refine opsI.step ?_ | refine codeI.step ?_); conv => whnf) | (intro (_ : Nat); conv => whnf) | (show CallN _ _ _ _ _ _; first | (refine CallN.fn rfl (c2 _ _ h0x (by assumption)) (fun v h' hl2 hr => ?_); obtain ⟨op4, ar4, ng4, nn4, dd4, nm4, ss4, rfl, hE2⟩ := hr; have hK2 := hK.mono hl2; conv => whnf)) | (show App _ _ _ _ _ _ _ _ _; first | (refine App.growK (A := [_, _]) (F := F1) (size := 7) (bytes := 112) (z := [.int .i64 0, .int .i64 0, .bool false, .slice none 0 0, .slice none 0 0, .string (txt []), .slice none 0 0]) rfl rfl gF ⟨_, 0, none⟩ 1 1 [_, _, _, _, _, _, _] rfl (Has.front _) rfl (by decide) (by omega) (by omega) (by decide) (fun v' F' g' => ?_); conv => whnf)) | (refine WrapN.i64 (by omega) (by omega) ?_; conv => whnf) | (refine cnd_lt (fun _ => ?_) (fun _ => ?_) <;> first | (exfalso; omega) | (conv => whnf)) | (refine LdN.own 0 rfl rfl ?_; conv => whnf) | (refine Sto.lit 0 rfl rfl rfl ?_; conv => whnf)
      exact ⟨rfl, ks.length - (j + 1), by omega, j + 1, _, _ :: _ :: F', _, rfl, (by (iterate 30 (try first | assumption | refine Heap.le_trans ?_ (by assumption))); first | done | assumption), by omega, vi (by omega), rfl, rfl, (g'.cons _).cons _, by rw [take_snoc ht, rplTs_append, rplTs, rplTs]; exact KC.snoc rfl hE2 hK2⟩
set_option maxRecDepth 20000 in
set_option maxHeartbeats 1000000 in
theorem SwapBy_ct (h0 : Heap) (ba bb : Nat) (na nb : List Nat) (Ta Tc : TypeId) (fa fc : Nat × Nat) (hna : ∀ y ∈ na, y < 256) (hnb : ∀ y ∈ nb, y < 256) (ma : h0 ba = some (.cells #[.string (txt na)] Ta fa)) (mb : h0 bb = some (.cells #[.string (txt nb)] Tc fc)) :
    ByC 74 [.pointer (some ⟨ba, 0, none⟩), .pointer (some ⟨bb, 0, none⟩)] (byP na nb) h0 := by
  intro u d h vs hok hle w
  obtain ⟨op, arg, neg, l, m, name, ks⟩ := u
  obtain ⟨a, b, s, rfl, ho, ha, hv, hb, hk⟩ := w.isK
  have ma' := hle _ _ ma
  have mb' := hle _ _ mb
  have f1 : ¬ op = 2 → byP na nb (.mk op arg neg l m name ks) = none := fun x => if_neg x
  have f2 : op = 2 → name = na → byP na nb (.mk op arg neg l m name ks) = some (.mk op arg neg l m nb ks) := fun x y => (if_pos x).trans (by rw [sw, if_pos y])
  have f3 : op = 2 → ¬ name = na → name = nb → byP na nb (.mk op arg neg l m name ks) = some (.mk op arg neg l m na ks) := fun x y z => (if_pos x).trans (by rw [sw, if_neg y, if_pos z])
  have f4 : op = 2 → ¬ name = na → ¬ name = nb → byP na nb (.mk op arg neg l m name ks) = some (.mk op arg neg l m name ks) := fun x y z => (if_pos x).trans (by rw [sw, if_neg y, if_neg z])
  refine fn0_of_codeI ok D.expr_Swap_1 rfl ?_
  conv => whnf
  repeat ((first | refine opsI.step ?_ | refine codeI.step ?_); conv => whnf)
  repeat' first | (show SeqN _ _ _ _ _ _ _; first | (refine SeqN.go ?_; conv => whnf)) | (show Ld _ _ _ _; first | (refine Ld.of (Has.imm ma' rfl) ?_; conv => whnf) | (refine Ld.of (Has.imm mb' rfl) ?_; conv => whnf) | (refine Ld.own 1 rfl rfl ?_; conv => whnf)) | (show cnd _ _ _; first | (refine cnd_txt hb hna (fun _ => ?_) (fun _ => ?_) <;> (conv => whnf)) | (refine cnd_txt hb hnb (fun _ => ?_) (fun _ => ?_) <;> (conv => whnf)) | (refine cnd_eq (fun _ => ?_) (fun _ => ?_) <;> first | (exfalso; omega) | (conv => whnf)) | (refine cnd_not ?_)) | ((first | refine opsI.step ?_ | refine codeI.step ?_); conv => whnf) | (intro (_ : Nat); conv => whnf) | (show LdN _ _ _ _ _; first | (refine LdN.own 0 rfl rfl ?_; conv => whnf) | (refine LdN.own 1 rfl rfl ?_; conv => whnf)) | (show Sto _ _ _ _; first | (refine Sto.lit 0 rfl rfl rfl ?_; conv => whnf) | (refine Sto.lit 1 rfl rfl rfl ?_; conv => whnf))
  all_goals first
    | exact RetN.all ⟨_, false, _, rfl, ⟨op, arg, neg, a, b, name, s, rfl, w⟩, (fun x => by cases x), fun _ => f1 (by assumption)⟩
    | exact RetN.all ⟨_, true, _, rfl, ⟨op, arg, neg, a, b, nb, s, rfl, IsE.mkK ho ha hv hnb hk⟩, fun _ => f2 (by assumption) (by assumption), fun x => by cases x⟩
    | exact RetN.all ⟨_, true, _, rfl, ⟨op, arg, neg, a, b, na, s, rfl, IsE.mkK ho ha hv hna hk⟩, fun _ => f3 (by assumption) (by assumption) (by assumption), fun x => by cases x⟩
    | exact RetN.all ⟨_, true, _, rfl, ⟨op, arg, neg, a, b, name, s, rfl, w⟩, fun _ => f4 (by assumption) (by assumption) (by assumption), fun x => by cases x⟩
set_option maxRecDepth 20000 in
set_option maxHeartbeats 1000000 in
theorem Swap_ct (t : Tr) (na nb : List Nat) (h : Heap) (vs : List Value) (tb : Tb h) (w : IsE h vs t) (hna : ∀ y ∈ na, y < 256) (hnb : ∀ y ∈ nb, y < 256) : Fn0 T F.expr_Swap [.agg vs.toArray, .string (txt na), .string (txt nb)] h fun v h' => ResT h' v (swapX na nb t) := by
  have c1 := fun h tb w => Valid_ct t h vs tb w
  have c2 := fun h => XIsName_ct h na hna
  have c3 := fun h => XIsName_ct h nb hnb
  have c4 := fun h0 ba bb Ta Tc fa fc ma mb (x : ValT t) => fun h hl w => replaced2_ct rfl h0 (SwapBy_ct h0 ba bb na nb Ta Tc fa fc hna hnb ma mb) t h vs 1 hl w x.1
  have r1 : ¬ ValT t → swapX na nb t = (zeroT, 40) := fun x => if_pos x
  have r2 : ValT t → ¬ IsNm na → swapX na nb t = (zeroT, 41) := fun x y => by unfold swapX; rw [if_neg (show ¬ ¬ ValT t from fun z => z x), if_pos fun z => y z.1]
  have r3 : ValT t → ¬ IsNm nb → swapX na nb t = (zeroT, 41) := fun x y => by unfold swapX; rw [if_neg (show ¬ ¬ ValT t from fun z => z x), if_pos fun z => y z.2]
  have r4 : ValT t → IsNm na → IsNm nb → swapX na nb t = chkdT (rplT (byP na nb) t) := fun x y z => by
    rw [swapX_ok x ⟨y, z⟩, chkdT, if_pos (val_byP y z x)]
  have c5 := fun h vs tb w => checked_ct (rplT (byP na nb) t) h vs tb w
  obtain ⟨R, hR⟩ : ∃ R, R = swapX na nb t := ⟨_, rfl⟩
  obtain ⟨P, hP⟩ : ∃ P, P = rplT (byP na nb) t := ⟨_, rfl⟩
  rw [← hR] at r1 r2 r3 r4 ⊢
  rw [← hP] at c4 c5 r4
  obtain ⟨⟨Q1, Q2⟩, hQ⟩ : ∃ Q, Q = chkdT P := ⟨_, rfl⟩
  rw [← hQ] at c5 r4
  obtain ⟨⟨op, arg, neg, l, m, name, ks⟩, ht⟩ : ∃ x, x = t := ⟨_, rfl⟩
  obtain ⟨a, b, s, hvs, -⟩ := (ht.symm ▸ w : IsE h vs (.mk op arg neg l m name ks)).isK
  subst hvs
  refine fn0_of_codeI ok D.expr_Swap rfl ?_
  conv => whnf
  repeat ((first | refine opsI.step ?_ | refine codeI.step ?_); conv => whnf)
  repeat' first | (show LdN _ _ _ _ _; first | (first | refine LdN.own 0 rfl rfl ?_ | refine LdN.ownAt 0 rfl rfl ?_; conv => whnf) | (refine LdN.own 3 rfl rfl ?_; conv => whnf)) | (show CallN _ _ _ _ _ _; first | (refine CallN.fn rfl (c1 _ (by assumption) (by assumption)) (fun v h' hl2 hr => ?_); subst hr; conv => whnf) | (refine CallN.fn rfl (c2 _) (fun v h' hl2 hr => ?_); subst hr; conv => whnf) | (refine CallN.fn rfl (c3 _) (fun v h' hl2 hr => ?_); subst hr; conv => whnf) | (refine CallN.keep12 rfl (fun h' hl2 mb ma => ?_); refine CallN.fn rfl (c4 h' _ _ _ _ _ _ ma mb (by assumption) _ (Heap.le_refl _) (by (iterate 30 (try first | assumption | refine IsE.mono ?_ (by assumption))); first | done | assumption)) (fun v h'' hl3 hr => ?_); obtain ⟨op2, ar2, ng2, nn2, dd2, nm2, ss2, rfl, hE2⟩ := hr; conv => whnf) | (refine CallN.fn rfl (c5 _ _ (by (iterate 30 (try first | assumption | refine Tb.mono ?_ (by assumption))); first | done | assumption) (by assumption)) (fun v h'' hl3 hr => ?_); obtain ⟨_, rfl, op2, ar2, ng2, nn2, dd2, nm2, ss2, rfl, hE2⟩ := hr; conv => whnf)) | ((first | refine opsI.step ?_ | refine codeI.step ?_); conv => whnf) | (intro (_ : Nat); conv => whnf) | (show cnd _ _ _; first | (refine cnd_not ?_) | (refine cnd_dec (fun _ => ?_) (fun _ => ?_) <;> first | (exfalso; omega) | (conv => whnf))) | (show Ld _ _ _ _; first | (refine Ld.own 1 rfl rfl ?_; conv => whnf) | (refine Ld.own 2 rfl rfl ?_; conv => whnf)) | (refine Sto.lit 0 rfl rfl rfl ?_; conv => whnf)
  all_goals first
    | (rw [r1 (by assumption)]; exact RetN.all ⟨_, rfl, VE.zero _⟩)
    | (rw [r2 (by assumption) (by assumption)]; exact RetN.all ⟨_, rfl, VE.zero _⟩)
    | (rw [r3 (by assumption) (by assumption)]; exact RetN.all ⟨_, rfl, VE.zero _⟩)
    | (rw [r4 (by assumption) (by assumption) (by assumption)]; exact RetN.all ⟨_, rfl, op2, ar2, ng2, nn2, dd2, nm2, ss2, rfl, hE2⟩)
set_option maxRecDepth 20000 in
set_option maxHeartbeats 1000000 in
theorem nothing_ct (h : Heap) (vs : List Value) (w : IsE h vs zeroT) : Fn0 T F.law04_nothing [.agg vs.toArray] h fun v h' => v = .bool true := by
  unfold zeroT at w
  obtain ⟨a, b, s, rfl, ho, ha, hv, hb, hk⟩ := w.isK
  have h1 := hv.num.len
  have h2 := hv.den.len
  have h3 := hk.len
  simp only [List.length_nil] at h1 h2 h3
  refine fn0_of_codeI ok D.law04_nothing rfl ?_
  conv => whnf
  repeat ((first | refine opsI.step ?_ | refine codeI.step ?_); conv => whnf)
  repeat' first | (show cnd _ _ _; first | (refine cnd_nil [] rfl rfl (fun _ => ?_) (fun hx => absurd rfl hx); conv => whnf) | (refine cnd_eq (fun _ => ?_) (fun _ => ?_) <;> first | (exfalso; omega) | (conv => whnf))) | ((first | refine opsI.step ?_ | refine codeI.step ?_); conv => whnf) | (intro (_ : Nat); conv => whnf) | (refine Ld.own 0 rfl rfl ?_; conv => whnf)
  all_goals exact RetN.all (by first | rfl | (rw [h2]; exact congrArg Value.bool (eq_self 0)))
set_option maxRecDepth 20000 in
set_option maxHeartbeats 1000000 in
theorem agrees_ct (t u : Tr) (x y : Nat) (ag : Agree (t, x) (u, y)) (h : Heap) (vs us : List Value) (w : IsE h vs t) (w' : IsE h us u) :
    Fn0 T F.law04_agrees [.agg vs.toArray, .int .i64 x, .agg us.toArray, .int .i64 y] h fun v h' => v = .bool true := by
  obtain ⟨e1, e2, e3⟩ := ag
  replace e1 : x = y := e1
  replace e2 : y ≠ 0 → t = zeroT := e2
  replace e3 : y = 0 → okT 1 t ∧ okT 1 u ∧ sameB t u = true := e3
  subst e1
  have c1 := fun h w (z : x ≠ 0) => nothing_ct h vs (e2 z ▸ w)
  have c2 := fun h w w' (z : x = 0) => (e3 z).2.2 ▸ Same_ct t u h vs us 1 1 w w' (e3 z).1 (e3 z).2.1
  clear e2 e3
  obtain ⟨⟨op, arg, neg, l, m, name, ks⟩, ht⟩ : ∃ x, x = t := ⟨_, rfl⟩
  obtain ⟨a, b, s, hvs, -⟩ := (ht.symm ▸ w : IsE h vs (.mk op arg neg l m name ks)).isK
  obtain ⟨⟨op1, arg1, neg1, l1, m1, name1, ks1⟩, hu⟩ : ∃ x, x = u := ⟨_, rfl⟩
  obtain ⟨a1, b1, s1, hus, -⟩ := (hu.symm ▸ w' : IsE h us (.mk op1 arg1 neg1 l1 m1 name1 ks1)).isK
  subst hvs hus
  refine fn0_of_codeI ok D.law04_agrees rfl ?_
  conv => whnf
  repeat ((first | refine opsI.step ?_ | refine codeI.step ?_); conv => whnf)
  repeat' first | (show CallN _ _ _ _ _ _; first | (refine CallN.fn rfl (c1 _ (by assumption) (by omega)) (fun v h' hl2 hr => ?_); subst hr; conv => whnf) | (refine CallN.fn rfl (c2 _ (by assumption) (by assumption) (by omega)) (fun v h' hl2 hr => ?_); subst hr; conv => whnf)) | ((first | refine opsI.step ?_ | refine codeI.step ?_); conv => whnf) | (intro (_ : Nat); conv => whnf) | (show cnd _ _ _; first | (refine cnd_eq (fun _ => ?_) (fun _ => ?_) <;> first | (exfalso; omega) | (conv => whnf)) | (refine cnd_not ?_)) | (show LdN _ _ _ _ _; first | (refine LdN.own 0 rfl rfl ?_; conv => whnf) | (refine LdN.own 1 rfl rfl ?_; conv => whnf))
  all_goals exact RetN.all rfl
end Go.Proofs.YtchcjbbnkcodjaaGreatDoor