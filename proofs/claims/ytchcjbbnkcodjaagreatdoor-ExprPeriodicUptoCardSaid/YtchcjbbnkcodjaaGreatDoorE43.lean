/- Linear expressions, on both sides. -/
import Derived.Test.YtchcjbbnkcodjaaGreatDoorE42
set_option linter.unusedVariables false
set_option linter.unusedSimpArgs false
namespace Go.Proofs.YtchcjbbnkcodjaaGreatDoor
open Go Go.Vc Go.Dig
theorem LitF.use {h : Heap} {v : Value} {o : Option Rat} (x : LitF h v o) : ∃ (b : Bool) (c e : Sl) (i : Bool), v = .tuple #[.agg #[.bool b, c.val, e.val], .bool i] ∧ (i = true → o = some (o.getD 0) ∧ Sz 64 (o.getD 0) ∧ IsFr h c e (o.getD 0)) ∧ (i = false → o = none) := by
  obtain ⟨b, c, e, i, rfl, h1, h2⟩ := x
  refine ⟨b, c, e, i, rfl, fun y => ?_, h2⟩
  obtain ⟨q, rfl, hz, -, hf⟩ := h1 y
  exact ⟨rfl, hz, hf⟩
theorem LitQ.use {h : Heap} {v : Value} {o : Option Rat} (x : LitQ h v o) : ∃ (b : Bool) (c e : Sl) (i : Bool), v = .tuple #[.agg #[.bool b, c.val, e.val], .bool i] ∧ (i = true → o = some (o.getD 0) ∧ Sz 64 (o.getD 0) ∧ IsQ h c e (o.getD 0)) ∧ (i = false → o = none) := by
  obtain ⟨b, c, e, i, rfl, h1, h2⟩ := x
  refine ⟨b, c, e, i, rfl, fun y => ?_, h2⟩
  obtain ⟨q, rfl, hz, -, hf⟩ := h1 y
  exact ⟨rfl, hz, hf⟩
set_option maxRecDepth 20000 in
theorem Whole_ct (h : Heap) (neg : Bool) (a b : Sl) (q : Rat) (hq : IsQ h a b q) (hs : Sz 64 q) : Fn0 T F.ref01_Whole [.agg #[.bool neg, a.val, b.val]] h fun v h' => h' = h ∧ v = .bool (dec (q.den = 1)) := by
  have c1 := whole_q h neg a b q.den hq.den q.den_nz (Nat.le_trans (Sr.of hs).den (by decide))
  refine fn0_of_codeI ok D.ref01_Whole rfl ?_
  conv => whnf
  repeat ((first | refine opsI.step ?_ | refine codeI.step ?_); conv => whnf)
  repeat' first | (show CallN _ _ _ _ _ _; first | (refine CallN.quiet rfl c1 ?_; conv => whnf)) | ((first | refine opsI.step ?_ | refine codeI.step ?_); conv => whnf) | (intro (_ : Nat); conv => whnf) | (refine LdN.own 0 rfl rfl ?_; conv => whnf)
  exact RetN.all ⟨rfl, rfl⟩
theorem intL_t {t : Tr} (h : litT t = some ((litT t).getD 0)) : intL t = dec (((litT t).getD 0).den = 1) := by
  unfold intL
  rw [h, dec_eq]
  rfl
theorem intL_f {t : Tr} (h : litT t = none) : intL t = false := by
  unfold intL
  rw [h]
theorem lin_any (nm : List Nat) (op arg : Int) (neg : Bool) (l m name : List Nat) (x y : Tr) (h : op = 5 ∨ op = 6) : linT nm (.mk op arg neg l m name [x, y]) = ([x, y].any (linT nm) && [x, y].all fun t => linT nm t || !hasT nm t) := by
  rw [linT_eq, if_neg (by omega), if_neg (by omega), if_pos h]
  show ((linT nm x || linT nm y) && (linT nm x || !hasT nm x) && (linT nm y || !hasT nm y)) = _
  simp [Bool.and_assoc]
theorem lin_mul (nm : List Nat) (op arg : Int) (neg : Bool) (l m name : List Nat) (x y : Tr) (h : op = 7) : linT nm (.mk op arg neg l m name [x, y]) = ((intL x && linT nm y) || (intL y && linT nm x)) := by
  rw [linT_eq, if_neg (by omega), if_neg (by omega), if_neg (by omega), if_pos h]
  rfl
theorem lin_no (nm : List Nat) (op arg : Int) (neg : Bool) (l m name : List Nat) (ks : List Tr) (h2 : op ≠ 2) (h4 : op ≠ 4) (h5 : op ≠ 5) (h6 : op ≠ 6) (h7 : op ≠ 7) : linT nm (.mk op arg neg l m name ks) = false := by
  rw [linT_eq, if_neg h2, if_neg h4, if_neg (by omega), if_neg h7]
set_option maxRecDepth 20000 in
set_option maxHeartbeats 2000000 in
theorem linear_ct (nm : List Nat) (hnm : ∀ y ∈ nm, y < 256) : ∀ (t : Tr) (d : Nat), okT d t → ∀ (h : Heap) (vs : List Value), Tb h → IsE h vs t → Fn0 T F.expr_linear [.agg vs.toArray, .string (txt nm)] h fun v h' => v = .bool (linT nm t) := by
  refine tree_ind fun t ih => ?_
  intro d hok h vs tb w
  obtain ⟨op, arg, neg, l, m, name, ks⟩ := t
  obtain ⟨a, b, s, rfl, ho, ha, hv, hb, hk⟩ := w.isK
  rw [okT] at hok
  obtain ⟨hd, hnb, hoks⟩ := hok
  have hkl := hk.len
  by_cases o2 : op = 2
  · have r : linT nm (.mk op arg neg l m name ks) = decide (name = nm) := by rw [linT_eq, if_pos o2]
    rw [r]
    refine fn0_of_codeI ok D.expr_linear rfl ?_
    conv => whnf
    repeat ((first | refine opsI.step ?_ | refine codeI.step ?_); conv => whnf)
    repeat' first | (show SeqN _ _ _ _ _ _ _; first | (refine SeqN.go ?_; conv => whnf)) | ((first | refine opsI.step ?_ | refine codeI.step ?_); conv => whnf) | (intro (_ : Nat); conv => whnf) | (refine cnd_eq (fun _ => ?_) (fun _ => ?_) <;> first | (exfalso; omega) | (conv => whnf)) | (refine Ld.own 0 rfl rfl ?_; conv => whnf)
    refine RetN.all ?_
    congr 1
    by_cases e : name = nm
    · rw [decide_eq_true e, e]
      unfold seq
      exact beq_self_eq_true _
    · rw [decide_eq_false e]
      exact seq_ne fun x => e (txt_inj hb hnm x)
  by_cases o4 : op = 4
  · have hks := ks_one hnb.1 (by rw [o4]; rfl)
    obtain ⟨k0, hk0⟩ : ∃ k0, k0 = ks.getD 0 zeroT := ⟨_, rfl⟩
    rw [← hk0] at hks
    subst hks
    have r : linT nm (.mk op arg neg l m name [k0]) = linT nm k0 := by rw [linT_eq, if_neg o2, if_pos o4]; rfl
    rw [r]
    have c2 := fun h vs tb w => ih k0 (szT_kid (j := 0) rfl) (d + 1) (okTs_get (j := 0) hoks rfl) h vs tb w
    refine fn0_of_codeI ok D.expr_linear rfl ?_
    conv => whnf
    repeat ((first | refine opsI.step ?_ | refine codeI.step ?_); conv => whnf)
    repeat' first | (show SeqN _ _ _ _ _ _ _; first | (refine SeqN.go ?_; conv => whnf)) | (show Idx _ _ _ _ _; first | (refine Idx.kid hk 0 _ rfl rfl (fun ad op2 arg2 neg2 a2 b2 name2 s2 hE hld => ?_); conv => whnf)) | (refine hld _ _ _ (Heap.le_refl _) ?_; conv => whnf) | ((first | refine opsI.step ?_ | refine codeI.step ?_); conv => whnf) | (intro (_ : Nat); conv => whnf) | (show CallN _ _ _ _ _ _; first | (refine CallN.fn rfl (c2 _ _ (by assumption) (by assumption)) (fun v h' hl2 hr => ?_); subst hr; conv => whnf)) | (refine cnd_eq (fun _ => ?_) (fun _ => ?_) <;> first | (exfalso; omega) | (conv => whnf)) | (refine Ld.own 0 rfl rfl ?_; conv => whnf)
    exact RetN.all rfl
  by_cases o7 : op = 5 ∨ op = 6 ∨ op = 7
  · have hks := ks_two hnb.1 (by rcases o7 with rfl | rfl | rfl <;> rfl)
    obtain ⟨k0, hk0⟩ : ∃ k0, k0 = ks.getD 0 zeroT := ⟨_, rfl⟩
    obtain ⟨k1, hk1⟩ : ∃ k1, k1 = ks.getD 1 zeroT := ⟨_, rfl⟩
    rw [← hk0, ← hk1] at hks
    subst hks
    replace hkl : s.l = 2 := hkl
    by_cases o56 : op = 5 ∨ op = 6
    · have r := lin_any nm op arg neg l m name k0 k1 o56
      obtain ⟨KS, hKS⟩ : ∃ KS, KS = [k0, k1] := ⟨_, rfl⟩
      have hKl : KS.length = 2 := by rw [hKS]; rfl
      obtain ⟨R, hR⟩ : ∃ R, R = linT nm (.mk op arg neg l m name [k0, k1]) := ⟨_, rfl⟩
      rw [← hR] at r ⊢
      rw [← hKS] at r hk hoks
      have ih2 : ∀ (j : Nat) t, KS[j]? = some t → szT t < szT (.mk op arg neg l m name [k0, k1]) := fun j t e => by rw [hKS] at e; exact szT_kid e
      clear hR hKS
      refine fn0_of_codeI ok D.expr_linear rfl ?_
      conv => whnf
      repeat ((first | refine opsI.step ?_ | refine codeI.step ?_); conv => whnf)
      repeat' first | (show SeqN _ _ _ _ _ _ _; first | (refine SeqN.go ?_; conv => whnf)) | ((first | refine opsI.step ?_ | refine codeI.step ?_); conv => whnf) | (intro (_ : Nat); conv => whnf) | (refine cnd_eq (fun _ => ?_) (fun _ => ?_) <;> first | (exfalso; omega) | (conv => whnf)) | (refine Ld.own 0 rfl rfl ?_; conv => whnf)
      all_goals
        refine LoopN.of (fun r ρ hx L => ∃ (j : Nat) (sm : Bool), r = 2 - j ∧ h.le hx ∧ j ≤ 2 ∧ rd ρ 35 = .int .i64 j ∧ rd ρ 5 = .bool sm ∧ Hq (sm = (KS.take j).any (linT nm) ∧ ((KS.take j).all fun t => linT nm t || !hasT nm t) = true)) 2
          ⟨0, false, rfl, Heap.le_refl _, Nat.zero_le _, rfl, rfl, ⟨by rw [List.take_zero]; exact ⟨rfl, rfl⟩⟩⟩ ?_
        conv => whnf
        repeat intro _
        rename_i r hx L2 hI
        obtain ⟨j, sm, rfl, hle, hj, e35, e5, hq⟩ := hI
        conv at e35 => lhs; whnf
        subst e35
        conv at e5 => lhs; whnf
        subst e5
        by_cases hjl : j = 2
        · subst hjl
          have hqo := hq.out
          rw [← hKl, List.take_length] at hqo
          rw [r, hqo.2, ← hqo.1, Bool.and_true]
          conv => whnf
          repeat ((first | refine opsI.step ?_ | refine codeI.step ?_); conv => whnf)
          repeat' first | ((first | refine opsI.step ?_ | refine codeI.step ?_); conv => whnf) | (refine cnd_lt (fun _ => ?_) (fun _ => ?_) <;> first | (exfalso; omega) | (conv => whnf))
          exact RetN.all rfl
        · obtain ⟨t, ht⟩ : ∃ t, KS[j]? = some t := ⟨_, List.getElem?_eq_getElem (by omega)⟩
          have hot := okTs_get hoks ht
          have c2 := fun h vs tb w => ih t (ih2 j t ht) (d + 1) hot h vs tb w
          have c3 := fun h vs w => has_ct t nm hnm h vs (d + 1) w hot
          have f0 : linT nm t = false → hasT nm t = true → R = false := fun x y => by
            rw [r, take_tail ht, List.all_append, List.all_cons, x, y]; simp
          have f1 : (linT nm t || !hasT nm t) = true → ((KS.take (j + 1)).all fun t => linT nm t || !hasT nm t) = true := fun x => by rw [take_snoc ht, List.all_append, hq.out.2, List.all_cons, x]; rfl
          have f2 : (KS.take (j + 1)).any (linT nm) = (sm || linT nm t) := by rw [take_snoc ht, List.any_append, ← hq.out.1, List.any_cons]; simp
          obtain ⟨C, hC⟩ : ∃ C, C = linT nm t := ⟨_, rfl⟩
          obtain ⟨D1, hD⟩ : ∃ C, C = hasT nm t := ⟨_, rfl⟩
          rw [← hC] at c2 f0 f1 f2
          rw [← hD] at c3 f0 f1
          have hkx := hk.mono hle
          conv => whnf
          repeat ((first | refine opsI.step ?_ | refine codeI.step ?_); conv => whnf)
          repeat' first | (show Idx _ _ _ _ _; first | (refine Idx.kid hkx j t (by omega) ht (fun ad op2 arg2 neg2 a2 b2 name2 s2 hE hld => ?_); conv => whnf)) | (refine hld _ _ _ (Heap.le_refl _) ?_; conv => whnf) | ((first | refine opsI.step ?_ | refine codeI.step ?_); conv => whnf) | (intro (_ : Nat); conv => whnf) | (show CallN _ _ _ _ _ _; first | (refine CallN.fn rfl (c2 _ _ (by (iterate 30 (try first | assumption | refine Tb.mono ?_ (by assumption))); first | done | assumption) (by assumption)) (fun v h' hl2 hr => ?_); subst hr; conv => whnf) | (refine CallN.quiet rfl (c3 _ _ (by (iterate 30 (try first | assumption | refine IsE.mono ?_ (by assumption))); first | done | assumption)) ?_; conv => whnf)) | (refine WrapN.i64 (by omega) (by omega) ?_; conv => whnf) | (show cnd _ _ _; first | (refine cnd_lt (fun _ => ?_) (fun _ => ?_) <;> first | (exfalso; omega) | (conv => whnf)) | (refine cnd_not ?_) | (refine cnd_bool (fun hb => ?_) (fun hb => ?_) <;> (first | cases hb | subst hb) <;> (conv => whnf))) | (refine LdN.own 0 rfl rfl ?_; conv => whnf) | (refine Sto.lit 0 rfl rfl rfl ?_; conv => whnf)
          all_goals first
            | (rw [f0 rfl rfl]; exact RetN.all rfl)
            | exact ⟨rfl, 2 - (j + 1), by omega, j + 1, _, rfl, (by (iterate 30 (try first | assumption | refine Heap.le_trans ?_ (by assumption))); first | done | assumption), by omega, vi (by omega), rfl, ⟨by rw [f2]; simp, f1 rfl⟩⟩
    · have o7' : op = 7 := by omega
      have r := lin_mul nm op arg neg l m name k0 k1 o7'
      obtain ⟨R, hR⟩ : ∃ R, R = linT nm (.mk op arg neg l m name [k0, k1]) := ⟨_, rfl⟩
      rw [← hR] at r ⊢
      have hot0 := okTs_get (j := 0) hoks rfl
      have hot1 := okTs_get (j := 1) hoks rfl
      have c1 := fun h vs tb w => ih k0 (szT_kid (j := 0) rfl) (d + 1) hot0 h vs tb w
      have c0 := fun h vs tb w => ih k1 (szT_kid (j := 1) rfl) (d + 1) hot1 h vs tb w
      have d0 := fun h vs tb w => literal_ct k0 (d + 1) hot0 h vs tb w
      have d1 := fun h vs tb w => literal_ct k1 (d + 1) hot1 h vs tb w
      have i0t := intL_t (t := k0)
      have i1t := intL_t (t := k1)
      have i0f := intL_f (t := k0)
      have i1f := intL_f (t := k1)
      obtain ⟨I0, hI0⟩ : ∃ C, C = intL k0 := ⟨_, rfl⟩
      obtain ⟨I1, hI1⟩ : ∃ C, C = intL k1 := ⟨_, rfl⟩
      obtain ⟨L0, hL0⟩ : ∃ C, C = linT nm k0 := ⟨_, rfl⟩
      obtain ⟨L1, hL1⟩ : ∃ C, C = linT nm k1 := ⟨_, rfl⟩
      rw [← hI0] at r i0t i0f
      rw [← hI1] at r i1t i1f
      rw [← hL0] at r c1
      rw [← hL1] at r c0
      clear hI0 hI1 hL0 hL1 hR ih
      refine fn0_of_codeI ok D.expr_linear rfl ?_
      conv => whnf
      repeat ((first | refine opsI.step ?_ | refine codeI.step ?_); conv => whnf)
      repeat' first | (show SeqN _ _ _ _ _ _ _; first | (refine SeqN.go ?_; conv => whnf)) | ((first | refine opsI.step ?_ | refine codeI.step ?_); conv => whnf) | (intro (_ : Nat); conv => whnf) | (refine cnd_eq (fun _ => ?_) (fun _ => ?_) <;> first | (exfalso; omega) | (conv => whnf)) | (refine Ld.own 0 rfl rfl ?_; conv => whnf)
      rename_i be p1 p2 p3 p4 p5
      refine LoopN.of (fun r ρ hx L => ∃ (j : Nat) (X : Vc.Own), r = 2 - j ∧ h.le hx ∧ j ≤ 2 ∧ rd ρ 60 = .int .i64 j ∧ L = X ++ ((be, .cells [.int .i64 op, .int .i64 arg, .bool neg, a.val, b.val, .string (txt name), s.val].toArray Ty.api_Expr (0, 0)) :: []) ∧ Hq ((1 ≤ j → (I0 && L1) = false) ∧ (2 ≤ j → (I1 && L0) = false))) 2
        ⟨0, [], rfl, Heap.le_refl _, Nat.zero_le _, rfl, rfl, ⟨fun x => absurd x (by omega), fun x => absurd x (by omega)⟩⟩ ?_
      conv => whnf
      repeat intro _
      rename_i rr hx L2 hI
      obtain ⟨j, X, rfl, hle, hj, e60, rfl, hq⟩ := hI
      conv at e60 => lhs; whnf
      subst e60
      have hkx := hk.mono hle
      by_cases hjl : j = 2
      · subst hjl
        rw [r, hq.out.1 (by omega), hq.out.2 (by omega)]
        conv => whnf
        repeat ((first | refine opsI.step ?_ | refine codeI.step ?_); conv => whnf)
        repeat' first | ((first | refine opsI.step ?_ | refine codeI.step ?_); conv => whnf) | (refine cnd_lt (fun _ => ?_) (fun _ => ?_) <;> first | (exfalso; omega) | (conv => whnf))
        exact RetN.all rfl
      · obtain rfl | rfl : j = 0 ∨ j = 1 := by omega
        · conv => whnf
          repeat ((first | refine opsI.step ?_ | refine codeI.step ?_); conv => whnf)
          repeat' first | (show Ld _ _ _ _; first | (refine Ld.tl (A := [_, _]) (F := X) rfl ?_; conv => whnf) | (refine Ld.own 0 rfl rfl ?_; conv => whnf)) | (show Idx _ _ _ _ _; first | (refine Idx.kid hkx 0 k0 (by omega) rfl (fun ad op2 arg2 neg2 a2 b2 name2 s2 hE hld => ?_); conv => whnf) | (refine Idx.kid hkx 1 k1 (by omega) rfl (fun ad3 op3 arg3 neg3 a3 b3 name3 s3 hE3 hld3 => ?_); conv => whnf)) | (refine hld _ _ _ (Heap.le_refl _) ?_; conv => whnf) | (refine hld3 _ _ _ (by first | exact Heap.le_refl _ | assumption) ?_; conv => whnf) | ((first | refine opsI.step ?_ | refine codeI.step ?_); conv => whnf) | (intro (_ : Nat); conv => whnf) | (show CallN _ _ _ _ _ _; first | (refine CallN.fn rfl (d0 _ _ (by (iterate 30 (try first | assumption | refine Tb.mono ?_ (by assumption))); first | done | assumption) (by assumption)) (fun v h' hl2 hr => ?_); obtain ⟨fb, fc, fe, fi, rfl, g1, g2⟩ := hr.use; have hkx := hkx.mono hl2; conv => whnf) | (refine CallN.quiet rfl (One_ct _ _ _ (g1 rfl).2.2.den (Nat.le_trans (g1 rfl).2.1.den (by decide))) ?_; conv => whnf) | (refine CallN.fn rfl (c0 _ _ (by (iterate 30 (try first | assumption | refine Tb.mono ?_ (by assumption))); first | done | assumption) (by assumption)) (fun v h' hl2 hr => ?_); subst hr; conv => whnf)) | (refine WrapN.i64 (by omega) (by omega) ?_; conv => whnf) | (show cnd _ _ _; first | (refine cnd_lt (fun _ => ?_) (fun _ => ?_) <;> first | (exfalso; omega) | (conv => whnf)) | (refine cnd_dec (fun _ => ?_) (fun _ => ?_) <;> first | (exfalso; omega) | (conv => whnf)) | (refine cnd_bool (fun hb => ?_) (fun hb => ?_) <;> (first | cases hb | subst hb) <;> (conv => whnf))) | (refine LdN.own 0 rfl rfl ?_; conv => whnf) | (refine Sto.lit 0 rfl rfl rfl ?_; conv => whnf)
          all_goals first
            | (rw [r, i0t (g1 rfl).1, dec_true (by assumption)]; exact RetN.all (by first | rfl | simp))
            | exact ⟨rfl, 2 - (0 + 1), by omega, 0 + 1, _ :: _ :: X, rfl, (by (iterate 30 (try first | assumption | refine Heap.le_trans ?_ (by assumption))); first | done | assumption), by omega, vi (by omega), rfl, ⟨fun _ => (by first | (rw [i0f (g2 rfl)]; rfl) | (rw [i0t (g1 rfl).1, dec_false (by assumption)]; rfl) | simp), fun x => absurd x (by omega)⟩⟩
        · conv => whnf
          repeat ((first | refine opsI.step ?_ | refine codeI.step ?_); conv => whnf)
          repeat' first | (show Ld _ _ _ _; first | (refine Ld.tl (A := [_, _]) (F := X) rfl ?_; conv => whnf) | (refine Ld.own 0 rfl rfl ?_; conv => whnf)) | (show Idx _ _ _ _ _; first | (refine Idx.kid hkx 1 k1 (by omega) rfl (fun ad op2 arg2 neg2 a2 b2 name2 s2 hE hld => ?_); conv => whnf) | (refine Idx.kid hkx 0 k0 (by omega) rfl (fun ad3 op3 arg3 neg3 a3 b3 name3 s3 hE3 hld3 => ?_); conv => whnf)) | (refine hld _ _ _ (Heap.le_refl _) ?_; conv => whnf) | (refine hld3 _ _ _ (by first | exact Heap.le_refl _ | assumption) ?_; conv => whnf) | ((first | refine opsI.step ?_ | refine codeI.step ?_); conv => whnf) | (intro (_ : Nat); conv => whnf) | (show CallN _ _ _ _ _ _; first | (refine CallN.fn rfl (d1 _ _ (by (iterate 30 (try first | assumption | refine Tb.mono ?_ (by assumption))); first | done | assumption) (by assumption)) (fun v h' hl2 hr => ?_); obtain ⟨fb, fc, fe, fi, rfl, g1, g2⟩ := hr.use; have hkx := hkx.mono hl2; conv => whnf) | (refine CallN.quiet rfl (One_ct _ _ _ (g1 rfl).2.2.den (Nat.le_trans (g1 rfl).2.1.den (by decide))) ?_; conv => whnf) | (refine CallN.fn rfl (c1 _ _ (by (iterate 30 (try first | assumption | refine Tb.mono ?_ (by assumption))); first | done | assumption) (by assumption)) (fun v h' hl2 hr => ?_); subst hr; conv => whnf)) | (refine WrapN.i64 (by omega) (by omega) ?_; conv => whnf) | (show cnd _ _ _; first | (refine cnd_lt (fun _ => ?_) (fun _ => ?_) <;> first | (exfalso; omega) | (conv => whnf)) | (refine cnd_dec (fun _ => ?_) (fun _ => ?_) <;> first | (exfalso; omega) | (conv => whnf)) | (refine cnd_bool (fun hb => ?_) (fun hb => ?_) <;> (first | cases hb | subst hb) <;> (conv => whnf))) | (refine LdN.own 0 rfl rfl ?_; conv => whnf) | (refine Sto.lit 0 rfl rfl rfl ?_; conv => whnf)
          all_goals first
            | (rw [r, i1t (g1 rfl).1, dec_true (by assumption)]; exact RetN.all (by first | rfl | simp))
            | exact ⟨rfl, 2 - (1 + 1), by omega, 1 + 1, _ :: _ :: X, rfl, (by (iterate 30 (try first | assumption | refine Heap.le_trans ?_ (by assumption))); first | done | assumption), by omega, vi (by omega), rfl, ⟨fun _ => hq.out.1 (by omega), fun _ => (by first | (rw [i1f (g2 rfl)]; rfl) | (rw [i1t (g1 rfl).1, dec_false (by assumption)]; rfl) | simp)⟩⟩
  · have r : linT nm (.mk op arg neg l m name ks) = false := lin_no nm op arg neg l m name ks o2 o4 (by omega) (by omega) (by omega)
    rw [r]
    refine fn0_of_codeI ok D.expr_linear rfl ?_
    conv => whnf
    repeat ((first | refine opsI.step ?_ | refine codeI.step ?_); conv => whnf)
    repeat' first | (show SeqN _ _ _ _ _ _ _; first | (refine SeqN.go ?_; conv => whnf)) | ((first | refine opsI.step ?_ | refine codeI.step ?_); conv => whnf) | (intro (_ : Nat); conv => whnf) | (refine cnd_eq (fun _ => ?_) (fun _ => ?_) <;> first | (exfalso; omega) | (conv => whnf)) | (refine Ld.own 0 rfl rfl ?_; conv => whnf)
    all_goals exact RetN.all rfl
end Go.Proofs.YtchcjbbnkcodjaaGreatDoor