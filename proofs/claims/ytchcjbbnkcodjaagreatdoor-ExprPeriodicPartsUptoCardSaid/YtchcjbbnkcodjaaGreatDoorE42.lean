/- Literals of a tree, on both sides; Has. -/
import Derived.Test.YtchcjbbnkcodjaaGreatDoorE41
import Derived.Test.YtchcjbbnkcodjaaGreatDoorE37
set_option linter.unusedVariables false
set_option linter.unusedSimpArgs false
namespace Go.Proofs.YtchcjbbnkcodjaaGreatDoor
open Go Go.Vc Go.Dig
theorem litT_num {arg : Int} {op : Int} {neg : Bool} {l m name : List Nat} {ks : List Tr} (h : op = 1) : litT (.mk op arg neg l m name ks) = some (ratOf neg l m) := by
  unfold litT; dsimp only; rw [if_pos h]
theorem litT_neg {arg op : Int} {neg : Bool} {l m name : List Nat} {op0 arg0 : Int} {neg0 : Bool} {l0 m0 name0 : List Nat} {ks0 ks : List Tr} (h : op = 4) : litT (.mk op arg neg l m name (.mk op0 arg0 neg0 l0 m0 name0 ks0 :: ks)) = if op0 = 1 then some (-(ratOf neg0 l0 m0)) else none := by
  unfold litT; dsimp only; rw [if_neg (by omega), if_pos h]
theorem litT_no {arg op : Int} {neg : Bool} {l m name : List Nat} {ks : List Tr} (h1 : op ≠ 1) (h4 : op ≠ 4) : litT (.mk op arg neg l m name ks) = none := by
  unfold litT; dsimp only; rw [if_neg h1, if_neg h4]
theorem sz_neg' {k : Nat} {q : Rat} (h : Sz k q) : Sz k (-q) := by
  refine ⟨?_, ?_⟩
  · have : nu (-q) = nu q := by unfold nu; rw [Rat.neg_num, Int.natAbs_neg]
    rw [this]; exact h.num
  · have : (-q).den = q.den := Rat.neg_den q
    rw [this]; exact h.den
theorem isFr_neg {h : Heap} {a b : Sl} {q : Rat} (w : IsFr h a b q) : IsFr h a b (-q) := by
  refine ⟨?_, ?_⟩
  · have : nu (-q) = nu q := by unfold nu; rw [Rat.neg_num, Int.natAbs_neg]
    rw [this]; exact w.num
  · have : (-q).den = q.den := Rat.neg_den q
    rw [this]; exact w.den
theorem isQ_neg {h : Heap} {a b : Sl} {q : Rat} (w : IsQ h a b q) : IsQ h a b (-q) := by
  refine ⟨?_, ?_⟩
  · have : nu (-q) = nu q := by unfold nu; rw [Rat.neg_num, Int.natAbs_neg]
    rw [this]; exact w.num
  · have : (-q).den = q.den := Rat.neg_den q
    rw [this]; exact w.den
theorem LdN.part3 {h h' : Heap} {L : Vc.Own} {bl off o : Nat} {ws : List Value} {x y z : Value} {k : Value → Prop} (hc : ∀ (i : Nat) v, h.le h' → ws[i]? = some v → Has h' L ⟨bl, off + i, none⟩ v) (hl : h.le h') (h0 : ws[o]? = some x)
    (h1 : ws[o + 1]? = some y) (h2 : ws[o + 2]? = some z) (hk : k (.agg #[x, y, z])) : LdN h' L ⟨bl, off + o, none⟩ 3 k :=
  ⟨[x, y, z], rfl, fun i hi => by
    rw [add_lit, Nat.add_assoc]
    match i, hi with
    | 0, _ => exact hc _ _ hl h0
    | 1, _ => exact hc _ _ hl h1
    | 2, _ => exact hc _ _ hl h2, hk⟩
theorem IsK.kidP {h : Heap} {s : Sl} {ts : List Tr} (w : IsK h s ts) (j : Nat) (t : Tr) (ht : ts[j]? = some t) :
    ∃ (bl off : Nat) (op arg : Int) (neg : Bool) (a b : Sl) (name : List Nat) (s' : Sl), IsE h [.int .i64 op, .int .i64 arg, .bool neg, a.val, b.val, .string (txt name), s'.val] t ∧
      (∀ h' (L : Vc.Own) (i : Nat) v, h.le h' → [.int .i64 op, .int .i64 arg, .bool neg, a.val, b.val, .string (txt name), s'.val][i]? = some v → Has h' L ⟨bl, off + i, none⟩ v) ∧
      (∀ h' (L : Vc.Own) (k' : Value → Prop), h.le h' → k' (.agg #[.bool neg, a.val, b.val]) → LdN h' L ⟨bl, off + 2, none⟩ 3 k') ∧
      ∀ (i : Int) (k : Addr → Prop), i = j → k ⟨bl, off, none⟩ → Idx s.a i s.l 7 k := by
  obtain ⟨hj, -⟩ := List.getElem?_eq_some_iff.1 ht
  rcases w.mem with e | ⟨bl, off, c, T, fz, e1, e2, e3⟩
  · subst e; simp at ht
  · obtain ⟨vs, h1, h2, h3⟩ := IsKs.get e3 ht
    obtain ⟨op, arg, neg, l, m, name, ks⟩ := t
    have h3' := h3
    rw [IsE] at h3
    obtain ⟨a, b, s', rfl, -⟩ := h3
    have hc : ∀ h' (L : Vc.Own) (i : Nat) v, h.le h' → [.int .i64 op, .int .i64 arg, .bool neg, a.val, b.val, .string (txt name), s'.val][i]? = some v → Has h' L ⟨bl, off + j * 7 + i, none⟩ v := fun h' L i v hl hv => by
      have hi7 : i < 7 := (List.getElem?_eq_some_iff.1 hv).1
      exact Has.imm (hl _ _ e2) (by rw [h2 i hi7, hv])
    exact ⟨bl, off + j * 7, op, arg, neg, a, b, name, s', h3', hc, fun h' L k' hl hk' => LdN.part3 (o := 2) (hc h' L) hl rfl rfl rfl hk', fun i k hi hk => Idx.of j e1 hi (by rw [w.len]; exact hj) hk⟩
def LitF (h : Heap) (v : Value) (o : Option Rat) : Prop := ∃ (b : Bool) (c e : Sl) (i : Bool), v = .tuple #[.agg #[.bool b, c.val, e.val], .bool i] ∧ (i = true → ∃ q, o = some q ∧ Sz 64 q ∧ b = sg q ∧ IsFr h c e q) ∧ (i = false → o = none)
def LitQ (h : Heap) (v : Value) (o : Option Rat) : Prop := ∃ (b : Bool) (c e : Sl) (i : Bool), v = .tuple #[.agg #[.bool b, c.val, e.val], .bool i] ∧ (i = true → ∃ q, o = some q ∧ Sz 64 q ∧ b = sg q ∧ IsQ h c e q) ∧ (i = false → o = none)
set_option maxRecDepth 20000 in
set_option maxHeartbeats 1000000 in
theorem literal_ct (t : Tr) (d : Nat) (hok : okT d t) (h : Heap) (vs : List Value) (tb : Tb h) (w : IsE h vs t) : Fn0 T F.expr_literal [.agg vs.toArray] h fun v h' => LitF h' v (litT t) := by
  obtain ⟨op, arg, neg, l, m, name, ks⟩ := t
  obtain ⟨a, b, s, rfl, ho, ha, hv, hb, hk⟩ := w.isK
  rw [okT] at hok
  obtain ⟨hd, hnb, hoks⟩ := hok
  have hkl := hk.len
  have hq1 := hnb.2.2.2.2
  have c1 := fun h tb hv => Read_ct h tb neg a b l m hv
  by_cases o4 : op = 4
  · have hks := ks_one hnb.1 (by rw [o4]; rfl)
    obtain ⟨⟨op0, arg0, neg0, l0, m0, name0, ks0⟩, hk0⟩ : ∃ k0, k0 = ks.getD 0 zeroT := ⟨_, rfl⟩
    rw [← hk0] at hks
    subst hks
    rw [okTs, okT] at hoks
    have hq0 := hoks.1.2.1.2.2.2.2
    have r1 := litT_neg (arg := arg) (neg := neg) (l := l) (m := m) (name := name) (op0 := op0) (arg0 := arg0) (neg0 := neg0) (l0 := l0) (m0 := m0) (name0 := name0) (ks0 := ks0) (ks := []) o4
    have c2 := fun h tb a b hv => Read_ct h tb neg0 a b l0 m0 hv
    obtain ⟨R, hR⟩ : ∃ R, R = litT (.mk op arg neg l m name [.mk op0 arg0 neg0 l0 m0 name0 ks0]) := ⟨_, rfl⟩
    rw [← hR] at r1 ⊢
    have hks1 : ([.mk op0 arg0 neg0 l0 m0 name0 ks0] : List Tr).length = 1 := rfl
    rw [hks1] at hkl
    refine fn0_of_codeI ok D.expr_literal rfl ?_
    conv => whnf
    repeat ((first | refine opsI.step ?_ | refine codeI.step ?_); conv => whnf)
    repeat' first | (show SeqN _ _ _ _ _ _ _; first | (refine SeqN.go ?_; conv => whnf)) | (show LdN _ _ _ _ _; first | ((first | refine LdN.ownAt 0 rfl rfl ?_ | refine LdN.ownAt 1 rfl rfl ?_ | refine LdN.ownAt 2 rfl rfl ?_); conv => whnf)) | (show Idx _ _ _ _ _; first | (refine Idx.kid hk 0 _ rfl rfl (fun ad op2 arg2 neg2 a2 b2 name2 s2 hE hld => ?_); obtain ⟨rfl, rfl, rfl, hv2, hnm2, hb2, hk2⟩ := IsE.inv hE; conv => whnf)) | (refine hld _ _ _ (Heap.le_refl _) ?_; conv => whnf) | ((first | refine opsI.step ?_ | refine codeI.step ?_); conv => whnf) | (intro (_ : Nat); conv => whnf) | (show CallN _ _ _ _ _ _; first | (refine CallN.fn rfl (c2 _ (by assumption) _ _ hv2) (fun v h' hl2 hr => ?_); obtain ⟨sb, cc, dd, rfl, hrr⟩ := hr; obtain ⟨rfl, hfr⟩ := hrr (by rw [if_pos (by assumption)] at hq0; exact hq0.1); conv => whnf) | (refine CallN.quiet rfl (Opposite_ct _ _ _ _ (by assumption) ((okR.sz (by rw [if_pos (by assumption)] at hq0; exact hq0.1)).mono (by decide))) ?_; conv => whnf)) | (show cnd _ _ _; first | (refine cnd_eq (fun _ => ?_) (fun _ => ?_) <;> first | (exfalso; omega) | (conv => whnf)) | (refine cnd_not ?_)) | (refine Ld.own 1 rfl rfl ?_; conv => whnf) | (show Sto _ _ _ _; first | (refine Sto.lit 0 rfl rfl rfl ?_; conv => whnf) | (refine Sto.lit 1 rfl rfl rfl ?_; conv => whnf))
    · have hq00 := hq0
      rw [if_pos (by assumption)] at hq00
      refine RetN.all (R := fun v h' => LitF h' v R) ?_
      exact ⟨_, cc, dd, true, rfl, fun _ => ⟨_, by rw [r1, if_pos (by assumption)], sz_neg' (okR.sz hq00.1), rfl, isFr_neg (hfr)⟩, fun x => by cases x⟩
    · refine RetN.all ⟨_, ⟨none, 0, 0⟩, ⟨none, 0, 0⟩, false, rfl, (fun x => by cases x), fun _ => by rw [r1, if_neg (by assumption)]⟩
  · have r1 : op = 1 → litT (.mk op arg neg l m name ks) = some (ratOf neg l m) := litT_num
    have r2 : ¬ op = 1 → litT (.mk op arg neg l m name ks) = none := fun x => litT_no x o4
    obtain ⟨R, hR⟩ : ∃ R, R = litT (.mk op arg neg l m name ks) := ⟨_, rfl⟩
    rw [← hR] at r1 r2 ⊢
    refine fn0_of_codeI ok D.expr_literal rfl ?_
    conv => whnf
    repeat ((first | refine opsI.step ?_ | refine codeI.step ?_); conv => whnf)
    repeat' first | (show SeqN _ _ _ _ _ _ _; first | (refine SeqN.go ?_; conv => whnf)) | (show LdN _ _ _ _ _; first | ((first | refine LdN.ownAt 0 rfl rfl ?_ | refine LdN.ownAt 1 rfl rfl ?_ | refine LdN.ownAt 2 rfl rfl ?_); conv => whnf)) | (show CallN _ _ _ _ _ _; first | (refine CallN.fn rfl (c1 _ (by assumption) (by assumption)) (fun v h' hl2 hr => ?_); obtain ⟨sb, cc, dd, rfl, hrr⟩ := hr; obtain ⟨rfl, hfr⟩ := hrr (by rw [if_pos (by assumption)] at hq1; exact hq1.1); conv => whnf)) | ((first | refine opsI.step ?_ | refine codeI.step ?_); conv => whnf) | (intro (_ : Nat); conv => whnf) | (show cnd _ _ _; first | (refine cnd_eq (fun _ => ?_) (fun _ => ?_) <;> first | (exfalso; omega) | (conv => whnf)) | (refine cnd_not ?_)) | (refine Ld.own 1 rfl rfl ?_; conv => whnf) | (show Sto _ _ _ _; first | (refine Sto.lit 0 rfl rfl rfl ?_; conv => whnf) | (refine Sto.lit 1 rfl rfl rfl ?_; conv => whnf))
    · have hq00 := hq1
      rw [if_pos (by assumption)] at hq00
      refine RetN.all ⟨_, _, _, true, rfl, fun _ => ⟨_, r1 (by assumption), okR.sz hq00.1, rfl, by assumption⟩, fun x => by cases x⟩
    · refine RetN.all ⟨_, ⟨none, 0, 0⟩, ⟨none, 0, 0⟩, false, rfl, (fun x => by cases x), fun _ => r2 (by assumption)⟩
set_option maxRecDepth 20000 in
set_option maxHeartbeats 1000000 in
theorem rliteral_ct (t : Tr) (d : Nat) (hok : okT d t) (h : Heap) (vs : List Value) (w : IsE h vs t) : Fn0 T F.ref04_literal [.agg vs.toArray] h fun v h' => LitQ h' v (litT t) := by
  obtain ⟨op, arg, neg, l, m, name, ks⟩ := t
  obtain ⟨a, b, s, rfl, ho, ha, hv, hb, hk⟩ := w.isK
  rw [okT] at hok
  obtain ⟨hd, hnb, hoks⟩ := hok
  have hkl := hk.len
  have hq1 := hnb.2.2.2.2
  have c1 := fun h hv => QOf_ct h neg a b l m hv
  by_cases o4 : op = 4
  · have hks := ks_one hnb.1 (by rw [o4]; rfl)
    obtain ⟨⟨op0, arg0, neg0, l0, m0, name0, ks0⟩, hk0⟩ : ∃ k0, k0 = ks.getD 0 zeroT := ⟨_, rfl⟩
    rw [← hk0] at hks
    subst hks
    rw [okTs, okT] at hoks
    have hq0 := hoks.1.2.1.2.2.2.2
    have r1 := litT_neg (arg := arg) (neg := neg) (l := l) (m := m) (name := name) (op0 := op0) (arg0 := arg0) (neg0 := neg0) (l0 := l0) (m0 := m0) (name0 := name0) (ks0 := ks0) (ks := []) o4
    have c2 := fun h a b hv => QOf_ct h neg0 a b l0 m0 hv
    obtain ⟨R, hR⟩ : ∃ R, R = litT (.mk op arg neg l m name [.mk op0 arg0 neg0 l0 m0 name0 ks0]) := ⟨_, rfl⟩
    rw [← hR] at r1 ⊢
    have hks1 : ([.mk op0 arg0 neg0 l0 m0 name0 ks0] : List Tr).length = 1 := rfl
    rw [hks1] at hkl
    obtain ⟨bl, off, op2, arg2, neg2, a2, b2, name2, s2, hE, hld, hln, hix⟩ := hk.kidP 0 _ rfl
    obtain ⟨rfl, rfl, rfl, hv2, hnm2, hb2, hk2⟩ := IsE.inv hE
    refine fn0_of_codeI ok D.ref04_literal rfl ?_
    conv => whnf
    repeat ((first | refine opsI.step ?_ | refine codeI.step ?_); conv => whnf)
    repeat' first | (show LdN _ _ _ _ _; first | ((first | refine LdN.ownAt 0 rfl rfl ?_ | refine LdN.ownAt 1 rfl rfl ?_ | refine LdN.ownAt 2 rfl rfl ?_); conv => whnf)) | (refine hix _ _ rfl ?_; conv => whnf) | (refine hln _ _ _ (Heap.le_refl _) ?_; conv => whnf) | ((first | refine opsI.step ?_ | refine codeI.step ?_); conv => whnf) | (intro (_ : Nat); conv => whnf) | (show Ld _ _ _ _; first | (refine Ld.of (hld _ _ 0 _ (Heap.le_refl _) rfl) ?_; conv => whnf) | (refine Ld.own 1 rfl rfl ?_; conv => whnf)) | (show CallN _ _ _ _ _ _; first | (refine CallN.fn rfl (c2 _ _ _ hv2) (fun v h' hl2 hr => ?_); obtain ⟨cc, dd, rfl, hfr⟩ := hr; conv => whnf) | (refine CallN.quiet rfl (Opp_q _ _ _ _ (by assumption) ((Sr.of (okR.sz (by rw [if_pos (by assumption)] at hq0; exact hq0.1))).mono (by decide))) ?_; conv => whnf)) | (refine cnd_eq (fun _ => ?_) (fun _ => ?_) <;> first | (exfalso; omega) | (conv => whnf)) | (refine Sto.lit 0 rfl rfl rfl ?_; conv => whnf)
    · have hq00 := hq0
      rw [if_pos (by assumption)] at hq00
      refine RetN.all ⟨_, _, _, true, rfl, fun _ => ⟨_, by rw [r1, if_pos (by assumption)], sz_neg' (okR.sz hq00.1), rfl, isQ_neg (by assumption)⟩, fun x => by cases x⟩
    · refine RetN.all ⟨_, ⟨none, 0, 0⟩, ⟨none, 0, 0⟩, false, rfl, (fun x => by cases x), fun _ => by rw [r1, if_neg (by assumption)]⟩
  · have r1 : op = 1 → litT (.mk op arg neg l m name ks) = some (ratOf neg l m) := litT_num
    have r2 : ¬ op = 1 → litT (.mk op arg neg l m name ks) = none := fun x => litT_no x o4
    obtain ⟨R, hR⟩ : ∃ R, R = litT (.mk op arg neg l m name ks) := ⟨_, rfl⟩
    rw [← hR] at r1 r2 ⊢
    refine fn0_of_codeI ok D.ref04_literal rfl ?_
    conv => whnf
    repeat ((first | refine opsI.step ?_ | refine codeI.step ?_); conv => whnf)
    repeat' first | (show LdN _ _ _ _ _; first | ((first | refine LdN.ownAt 0 rfl rfl ?_ | refine LdN.ownAt 1 rfl rfl ?_ | refine LdN.ownAt 2 rfl rfl ?_); conv => whnf)) | (show CallN _ _ _ _ _ _; first | (refine CallN.fn rfl (c1 _ (by assumption)) (fun v h' hl2 hr => ?_); obtain ⟨cc, dd, rfl, hfr⟩ := hr; conv => whnf)) | ((first | refine opsI.step ?_ | refine codeI.step ?_); conv => whnf) | (intro (_ : Nat); conv => whnf) | (refine cnd_eq (fun _ => ?_) (fun _ => ?_) <;> first | (exfalso; omega) | (conv => whnf)) | (refine Ld.own 1 rfl rfl ?_; conv => whnf) | (refine Sto.lit 0 rfl rfl rfl ?_; conv => whnf)
    · have hq00 := hq1
      rw [if_pos (by assumption)] at hq00
      refine RetN.all ⟨_, _, _, true, rfl, fun _ => ⟨_, r1 (by assumption), okR.sz hq00.1, rfl, by assumption⟩, fun x => by cases x⟩
    · refine RetN.all ⟨_, ⟨none, 0, 0⟩, ⟨none, 0, 0⟩, false, rfl, (fun x => by cases x), fun _ => r2 (by assumption)⟩
set_option maxRecDepth 20000 in
set_option maxHeartbeats 1000000 in
theorem Has_ct (nm : List Nat) (hnm : ∀ y ∈ nm, y < 256) : ∀ (t : Tr) (d : Nat), okT d t → ∀ (h : Heap) (vs : List Value), IsE h vs t → Fn0 T F.ref04_Has [.agg vs.toArray, .string (txt nm)] h fun v h' => v = .bool (hasT nm t) := by
  refine tree_ind fun t ih => ?_
  intro d hok h vs w
  obtain ⟨op, arg, neg, l, m, name, ks⟩ := t
  obtain ⟨a, b, s, rfl, ho, ha, hv, hb, hk⟩ := w.isK
  rw [okT] at hok
  obtain ⟨hd, hnb, hoks⟩ := hok
  have hkl := hk.len
  have hks : ks.length ≤ 3 := by
    have h1 := hnb.1
    have h2 := kidsN_le op
    omega
  have f1 : op = 2 → name = nm → hasT nm (.mk op arg neg l m name ks) = true := fun x y => by rw [hasT, decide_eq_true ⟨x, y⟩, Bool.true_or]
  have f2 : op = 2 → ¬ name = nm → hasT nm (.mk op arg neg l m name ks) = false := fun x y => by
    have h1 := hnb.1
    obtain rfl : ks = [] := List.length_eq_zero_iff.1 (by have : kidsN 2 = 0 := rfl; rw [x] at h1; omega)
    rw [hasT, hasTs, decide_eq_false (fun z => y z.2)]; rfl
  have f3 : ¬ op = 2 → hasT nm (.mk op arg neg l m name ks) = hasTs nm ks := fun x => by rw [hasT, decide_eq_false (fun z => x z.1), Bool.false_or]
  have f4 : ∀ (j : Nat) t, ks[j]? = some t → hasT nm t = true → hasTs nm ks = true := fun j t a b => by
    cases e : hasTs nm ks with
    | true => rfl
    | false => rw [hasTs_mem e (List.mem_of_getElem? a)] at b; cases b
  have f5 : (∀ (j : Nat) t, ks[j]? = some t → hasT nm t = false) → hasTs nm ks = false := fun a => by
    have : ∀ ts : List Tr, (∀ u ∈ ts, hasT nm u = false) → hasTs nm ts = false := fun ts => by
      induction ts with
      | nil => intro _; rw [hasTs]
      | cons u us ih => intro g; rw [hasTs, g u (List.mem_cons_self ..), ih fun x hx => g x (List.mem_cons_of_mem _ hx)]; rfl
    exact this ks fun u hu => by obtain ⟨j, hj, e⟩ := List.mem_iff_getElem.1 hu; exact a j u (by rw [List.getElem?_eq_getElem hj, e])
  obtain ⟨R, hR⟩ : ∃ R, R = hasT nm (.mk op arg neg l m name ks) := ⟨_, rfl⟩
  rw [← hR] at f1 f2 f3 ⊢
  refine fn0_of_codeI ok D.ref04_Has rfl ?_
  conv => whnf
  repeat ((first | refine opsI.step ?_ | refine codeI.step ?_); conv => whnf)
  repeat' first | ((first | refine opsI.step ?_ | refine codeI.step ?_); conv => whnf) | (intro (_ : Nat); conv => whnf) | (refine cnd_eq (fun _ => ?_) (fun _ => ?_) <;> first | (exfalso; omega) | (conv => whnf)) | (refine Ld.own 0 rfl rfl ?_; conv => whnf)
  · refine RetN.all ?_
    congr 1
    by_cases e : name = nm
    · rw [f1 (by assumption) e, e]
      unfold seq
      exact beq_self_eq_true _
    · rw [f2 (by assumption) e]
      exact seq_ne fun x => e (txt_inj hb hnm x)
  · rename_i be hop
    replace f3 := f3 hop
    refine LoopN.of (fun r ρ hx L => ∃ j : Nat, r = ks.length - j ∧ h.le hx ∧ j ≤ ks.length ∧ rd ρ 5 = .int .i64 j ∧
        L = [(be, .cells [.int .i64 op, .int .i64 arg, .bool neg, a.val, b.val, .string (txt name), s.val].toArray Ty.api_Expr (0, 0))] ∧ Hq (∀ (i : Nat) t, i < j → ks[i]? = some t → hasT nm t = false)) ks.length
      ⟨0, rfl, Heap.le_refl _, Nat.zero_le _, rfl, rfl, ⟨fun i t x => absurd x (Nat.not_lt_zero _)⟩⟩ ?_
    conv => whnf
    repeat intro _
    rename_i r hx L2 hI
    obtain ⟨j, rfl, hle, hj, e5, rfl, hq⟩ := hI
    conv at e5 => lhs; whnf
    subst e5
    by_cases hjl : j = ks.length
    · subst hjl
      rw [f3, f5 fun j t x => hq.out j t (List.getElem?_eq_some_iff.1 x).1 x]
      conv => whnf
      repeat ((first | refine opsI.step ?_ | refine codeI.step ?_); conv => whnf)
      repeat' first | ((first | refine opsI.step ?_ | refine codeI.step ?_); conv => whnf) | (refine cnd_lt (fun _ => ?_) (fun _ => ?_) <;> first | (exfalso; omega) | (conv => whnf)) | (refine Ld.own 0 rfl rfl ?_; conv => whnf)
      exact RetN.all rfl
    · obtain ⟨t, ht⟩ : ∃ t, ks[j]? = some t := ⟨_, List.getElem?_eq_getElem (by omega)⟩
      have c2 := fun h vs w => ih t (szT_kid ht) (d + 1) (okTs_get hoks ht) h vs w
      have f4 := f4 j t ht
      obtain ⟨C, hC⟩ : ∃ C, C = hasT nm t := ⟨_, rfl⟩
      rw [← hC] at c2 f4
      have hkx := hk.mono hle
      conv => whnf
      repeat ((first | refine opsI.step ?_ | refine codeI.step ?_); conv => whnf)
      repeat' first | (show Idx _ _ _ _ _; first | (refine Idx.kid hkx j t (by omega) ht (fun ad op2 arg2 neg2 a2 b2 name2 s2 hE hld => ?_); conv => whnf)) | (refine hld _ _ _ (Heap.le_refl _) ?_; conv => whnf) | ((first | refine opsI.step ?_ | refine codeI.step ?_); conv => whnf) | (show CallN _ _ _ _ _ _; first | (refine CallN.fn rfl (c2 _ _ (by assumption)) (fun v h' hl2 hr => ?_); subst hr; conv => whnf)) | (refine WrapN.i64 (by omega) (by omega) ?_; conv => whnf) | (show cnd _ _ _; first | (refine cnd_lt (fun _ => ?_) (fun _ => ?_) <;> first | (exfalso; omega) | (conv => whnf)) | (refine cnd_bool (fun hb => ?_) (fun hb => ?_) <;> (first | cases hb | subst hb) <;> (conv => whnf))) | (refine Ld.own 0 rfl rfl ?_; conv => whnf)
      · rw [f3, f4 rfl]; exact RetN.all rfl
      · exact ⟨rfl, ks.length - (j + 1), by omega, j + 1, rfl, (by (iterate 30 (try first | assumption | refine Heap.le_trans ?_ (by assumption))); first | done | assumption), by omega, vi (by omega), rfl, ⟨fun i t' x y => by
          rcases Nat.lt_succ_iff_lt_or_eq.1 x with x | rfl
          · exact hq.out i t' x y
          · rw [ht] at y; cases y; rw [← hC]⟩⟩
end Go.Proofs.YtchcjbbnkcodjaaGreatDoor