/- Linear expressions: the document's side; periods, on both sides; the laws. -/
import Derived.Test.YtchcjbbnkcodjaaGreatDoorE43
set_option linter.unusedVariables false
set_option linter.unusedSimpArgs false
namespace Go.Proofs.YtchcjbbnkcodjaaGreatDoor
open Go Go.Vc Go.Dig
theorem lin_sum (nm : List Nat) (op arg : Int) (neg : Bool) (l m name : List Nat) (x y : Tr) (h : op = 5 ∨ op = 6) : linT nm (.mk op arg neg l m name [x, y]) = ((linT nm x || linT nm y) && (linT nm x || !hasT nm x) && (linT nm y || !hasT nm y)) := by
  rw [linT_eq, if_neg (by omega), if_neg (by omega), if_pos h]
  rfl
set_option maxRecDepth 20000 in
set_option maxHeartbeats 2000000 in
theorem rlinear_ct (nm : List Nat) (hnm : ∀ y ∈ nm, y < 256) : ∀ (t : Tr) (d : Nat), okT d t → ∀ (h : Heap) (vs : List Value), IsE h vs t → Fn0 T F.ref04_linear [.agg vs.toArray, .string (txt nm)] h fun v h' => v = .bool (linT nm t) := by
  refine tree_ind fun t ih => ?_
  intro d hok h vs w
  obtain ⟨op, arg, neg, l, m, name, ks⟩ := t
  obtain ⟨a, b, s, rfl, ho, ha, hv, hb, hk⟩ := w.isK
  rw [okT] at hok
  obtain ⟨hd, hnb, hoks⟩ := hok
  have hkl := hk.len
  by_cases o2 : op = 2
  · have r : linT nm (.mk op arg neg l m name ks) = decide (name = nm) := by rw [linT_eq, if_pos o2]
    rw [r]
    refine fn0_of_codeI ok D.ref04_linear rfl ?_
    conv => whnf
    repeat ((first | refine opsI.step ?_ | refine codeI.step ?_); conv => whnf)
    repeat' first | (show SeqN _ _ _ _ _ _ _; first | (refine SeqN.go ?_; conv => whnf)) | ((first | refine opsI.step ?_ | refine codeI.step ?_); conv => whnf) | (intro (_ : Nat); conv => whnf) | (refine cnd_eq (fun _ => ?_) (fun _ => ?_) <;> first | (exfalso; omega) | (conv => whnf)) | (refine Ld.own 0 rfl rfl ?_; conv => whnf)
    refine RetN.all ?_
    congr 1
    by_cases e : name = nm
    · rw [decide_eq_true e, e]
      unfold seq
      exact beq_self_eq_true _
    · rw [decide_eq_false e]
      exact seq_ne fun x => e (txt_inj hb hnm x)
  by_cases o4 : op = 4
  · have hks := ks_one hnb.1 (by rw [o4]; rfl)
    obtain ⟨k0, hk0⟩ : ∃ k0, k0 = ks.getD 0 zeroT := ⟨_, rfl⟩
    rw [← hk0] at hks
    subst hks
    have r : linT nm (.mk op arg neg l m name [k0]) = linT nm k0 := by rw [linT_eq, if_neg o2, if_pos o4]; rfl
    rw [r]
    have c2 := fun h vs w => ih k0 (szT_kid (j := 0) rfl) (d + 1) (okTs_get (j := 0) hoks rfl) h vs w
    refine fn0_of_codeI ok D.ref04_linear rfl ?_
    conv => whnf
    repeat ((first | refine opsI.step ?_ | refine codeI.step ?_); conv => whnf)
    repeat' first | (show SeqN _ _ _ _ _ _ _; first | (refine SeqN.go ?_; conv => whnf)) | (show Idx _ _ _ _ _; first | (refine Idx.kid hk 0 _ rfl rfl (fun ad op2 arg2 neg2 a2 b2 name2 s2 hE hld => ?_); conv => whnf)) | (refine hld _ _ _ (Heap.le_refl _) ?_; conv => whnf) | ((first | refine opsI.step ?_ | refine codeI.step ?_); conv => whnf) | (intro (_ : Nat); conv => whnf) | (show CallN _ _ _ _ _ _; first | (refine CallN.fn rfl (c2 _ _ (by assumption)) (fun v h' hl2 hr => ?_); subst hr; conv => whnf)) | (refine cnd_eq (fun _ => ?_) (fun _ => ?_) <;> first | (exfalso; omega) | (conv => whnf)) | (refine Ld.own 0 rfl rfl ?_; conv => whnf)
    exact RetN.all rfl
  by_cases o7 : op = 5 ∨ op = 6 ∨ op = 7
  · have hks := ks_two hnb.1 (by rcases o7 with rfl | rfl | rfl <;> rfl)
    obtain ⟨k0, hk0⟩ : ∃ k0, k0 = ks.getD 0 zeroT := ⟨_, rfl⟩
    obtain ⟨k1, hk1⟩ : ∃ k1, k1 = ks.getD 1 zeroT := ⟨_, rfl⟩
    rw [← hk0, ← hk1] at hks
    subst hks
    replace hkl : s.l = 2 := hkl
    have hot0 := okTs_get (j := 0) hoks rfl
    have hot1 := okTs_get (j := 1) hoks rfl
    have c0 := fun h vs w => ih k0 (szT_kid (j := 0) rfl) (d + 1) hot0 h vs w
    have c1 := fun h vs w => ih k1 (szT_kid (j := 1) rfl) (d + 1) hot1 h vs w
    by_cases o56 : op = 5 ∨ op = 6
    · have r := lin_sum nm op arg neg l m name k0 k1 o56
      have e0 := fun h vs w => Has_ct nm hnm k0 (d + 1) hot0 h vs w
      have e1 := fun h vs w => Has_ct nm hnm k1 (d + 1) hot1 h vs w
      obtain ⟨R, hR⟩ : ∃ R, R = linT nm (.mk op arg neg l m name [k0, k1]) := ⟨_, rfl⟩
      rw [← hR] at r ⊢
      obtain ⟨L0, hL0⟩ : ∃ C, C = linT nm k0 := ⟨_, rfl⟩
      obtain ⟨L1, hL1⟩ : ∃ C, C = linT nm k1 := ⟨_, rfl⟩
      obtain ⟨H0, hH0⟩ : ∃ C, C = hasT nm k0 := ⟨_, rfl⟩
      obtain ⟨H1, hH1⟩ : ∃ C, C = hasT nm k1 := ⟨_, rfl⟩
      rw [← hL0] at r c0
      rw [← hL1] at r c1
      rw [← hH0] at r e0
      rw [← hH1] at r e1
      clear hL0 hL1 hH0 hH1 hR ih
      refine fn0_of_codeI ok D.ref04_linear rfl ?_
      conv => whnf
      repeat ((first | refine opsI.step ?_ | refine codeI.step ?_); conv => whnf)
      repeat' first | (show DrawN _ _ _ _ _ _; first | (refine DrawN.run (by decide +kernel) ?_; conv => whnf)) | (show SeqN _ _ _ _ _ _ _; first | (refine SeqN.go ?_; conv => whnf)) | (show Idx _ _ _ _ _; first | (refine Idx.kid hk 0 k0 rfl rfl (fun ad op2 arg2 neg2 a2 b2 name2 s2 hE hld => ?_); conv => whnf) | (refine Idx.kid hk 1 k1 rfl rfl (fun ad3 op3 arg3 neg3 a3 b3 name3 s3 hE3 hld3 => ?_); conv => whnf)) | (refine hld _ _ _ (by (iterate 30 (try first | assumption | exact Heap.le_refl _ | refine Heap.le_trans ?_ (by assumption))); first | done | assumption) ?_; conv => whnf) | (refine hld3 _ _ _ (by (iterate 30 (try first | assumption | exact Heap.le_refl _ | refine Heap.le_trans ?_ (by assumption))); first | done | assumption) ?_; conv => whnf) | ((first | refine opsI.step ?_ | refine codeI.step ?_); conv => whnf) | (refine ⟨fun _ => HasLe.of_le (by assumption), ?_⟩; conv => whnf) | (intro (_ : Nat); conv => whnf) | (show CallN _ _ _ _ _ _; first | (refine CallN.fn rfl (c0 _ _ (by (iterate 30 (try first | assumption | refine IsE.mono ?_ (by assumption))); first | done | assumption)) (fun v h' hl2 hr => ?_); subst hr; conv => whnf) | (refine CallN.fn rfl (c1 _ _ (by (iterate 30 (try first | assumption | refine IsE.mono ?_ (by assumption))); first | done | assumption)) (fun v h' hl2 hr => ?_); subst hr; conv => whnf) | (refine CallN.fn rfl (e0 _ _ (by (iterate 30 (try first | assumption | refine IsE.mono ?_ (by assumption))); first | done | assumption)) (fun v h' hl2 hr => ?_); subst hr; conv => whnf) | (refine CallN.fn rfl (e1 _ _ (by (iterate 30 (try first | assumption | refine IsE.mono ?_ (by assumption))); first | done | assumption)) (fun v h' hl2 hr => ?_); subst hr; conv => whnf)) | (show cnd _ _ _; first | (refine cnd_eq (fun _ => ?_) (fun _ => ?_) <;> first | (exfalso; omega) | (conv => whnf)) | (refine cnd_not ?_) | (refine cnd_bool (fun hb => ?_) (fun hb => ?_) <;> (first | cases hb | subst hb) <;> (conv => whnf))) | (refine Ld.own 0 rfl rfl ?_; conv => whnf)
      all_goals exact RetN.all (by rw [r]; first | rfl | simp)
    · have o7' : op = 7 := by omega
      have r := lin_mul nm op arg neg l m name k0 k1 o7'
      have d0 := fun h vs w => rliteral_ct k0 (d + 1) hot0 h vs w
      have d1 := fun h vs w => rliteral_ct k1 (d + 1) hot1 h vs w
      have i0t := intL_t (t := k0)
      have i1t := intL_t (t := k1)
      have i0f := intL_f (t := k0)
      have i1f := intL_f (t := k1)
      obtain ⟨R, hR⟩ : ∃ R, R = linT nm (.mk op arg neg l m name [k0, k1]) := ⟨_, rfl⟩
      rw [← hR] at r ⊢
      obtain ⟨I0, hI0⟩ : ∃ C, C = intL k0 := ⟨_, rfl⟩
      obtain ⟨I1, hI1⟩ : ∃ C, C = intL k1 := ⟨_, rfl⟩
      obtain ⟨L0, hL0⟩ : ∃ C, C = linT nm k0 := ⟨_, rfl⟩
      obtain ⟨L1, hL1⟩ : ∃ C, C = linT nm k1 := ⟨_, rfl⟩
      rw [← hI0] at r i0t i0f
      rw [← hI1] at r i1t i1f
      rw [← hL0] at r c0
      rw [← hL1] at r c1
      clear hI0 hI1 hL0 hL1 hR ih
      refine fn0_of_codeI ok D.ref04_linear rfl ?_
      conv => whnf
      repeat ((first | refine opsI.step ?_ | refine codeI.step ?_); conv => whnf)
      repeat' first | (show SeqN _ _ _ _ _ _ _; first | (refine SeqN.go ?_; conv => whnf)) | (show Idx _ _ _ _ _; first | (refine Idx.kid hk 0 k0 rfl rfl (fun ad op2 arg2 neg2 a2 b2 name2 s2 hE hld => ?_); conv => whnf) | (refine Idx.kid hk 1 k1 rfl rfl (fun ad3 op3 arg3 neg3 a3 b3 name3 s3 hE3 hld3 => ?_); conv => whnf)) | (refine hld _ _ _ (by (iterate 30 (try first | assumption | exact Heap.le_refl _ | refine Heap.le_trans ?_ (by assumption))); first | done | assumption) ?_; conv => whnf) | (refine hld3 _ _ _ (by (iterate 30 (try first | assumption | refine Heap.le_trans ?_ (by assumption))); first | done | assumption) ?_; conv => whnf) | ((first | refine opsI.step ?_ | refine codeI.step ?_); conv => whnf) | (intro (_ : Nat); conv => whnf) | (show CallN _ _ _ _ _ _; first | (refine CallN.fn rfl (c0 _ _ (by (iterate 30 (try first | assumption | refine IsE.mono ?_ (by assumption))); first | done | assumption)) (fun v h' hl2 hr => ?_); subst hr; conv => whnf) | (refine CallN.fn rfl (c1 _ _ (by (iterate 30 (try first | assumption | refine IsE.mono ?_ (by assumption))); first | done | assumption)) (fun v h' hl2 hr => ?_); subst hr; conv => whnf) | (refine CallN.fn rfl (d0 _ _ (by (iterate 30 (try first | assumption | refine IsE.mono ?_ (by assumption))); first | done | assumption)) (fun v h' hl2 hr => ?_); obtain ⟨fb, fc, fe, fi, rfl, g1, g2⟩ := hr.use; conv => whnf) | (refine CallN.fn rfl (d1 _ _ (by (iterate 30 (try first | assumption | refine IsE.mono ?_ (by assumption))); first | done | assumption)) (fun v h' hl2 hr => ?_); obtain ⟨gb, gc, ge, gi, rfl, g3, g4⟩ := hr.use; conv => whnf) | (refine CallN.quiet rfl (Whole_ct _ fb fc fe _ ((g1 rfl).2.2.mono (by assumption)) (g1 rfl).2.1) ?_; conv => whnf) | (refine CallN.quiet rfl (Whole_ct _ gb gc ge _ ((g3 rfl).2.2.mono (by (iterate 30 (try first | assumption | exact Heap.le_refl _)); first | done | assumption)) (g3 rfl).2.1) ?_; conv => whnf)) | (show cnd _ _ _; first | (refine cnd_eq (fun _ => ?_) (fun _ => ?_) <;> first | (exfalso; omega) | (conv => whnf)) | (refine cnd_dec (fun _ => ?_) (fun _ => ?_) <;> first | (exfalso; omega) | (conv => whnf)) | (refine cnd_bool (fun hb => ?_) (fun hb => ?_) <;> (first | cases hb | subst hb) <;> (conv => whnf))) | (show LdN _ _ _ _ _; first | (refine LdN.own 0 rfl rfl ?_; conv => whnf) | (refine LdN.own 1 rfl rfl ?_; conv => whnf)) | (show Ld _ _ _ _; first | (refine Ld.own 0 rfl rfl ?_; conv => whnf) | (refine Ld.own 1 rfl rfl ?_; conv => whnf) | (refine Ld.own 2 rfl rfl ?_; conv => whnf)) | (refine Sto.lit 0 rfl rfl rfl ?_; conv => whnf)
      all_goals
        refine RetN.all ?_
        rw [r]
        first
          | rw [i0f (g2 rfl)]
          | rw [i0t (g1 rfl).1, dec_true (by assumption)]
          | rw [i0t (g1 rfl).1, dec_false (by assumption)]
        try first
          | rw [i1f (g4 rfl)]
          | rw [i1t (g3 rfl).1, dec_true (by assumption)]
          | rw [i1t (g3 rfl).1, dec_false (by assumption)]
        first | rfl | simp
  · have r : linT nm (.mk op arg neg l m name ks) = false := lin_no nm op arg neg l m name ks o2 o4 (by omega) (by omega) (by omega)
    rw [r]
    refine fn0_of_codeI ok D.ref04_linear rfl ?_
    conv => whnf
    repeat ((first | refine opsI.step ?_ | refine codeI.step ?_); conv => whnf)
    repeat' first | (show SeqN _ _ _ _ _ _ _; first | (refine SeqN.go ?_; conv => whnf)) | ((first | refine opsI.step ?_ | refine codeI.step ?_); conv => whnf) | (intro (_ : Nat); conv => whnf) | (refine cnd_eq (fun _ => ?_) (fun _ => ?_) <;> first | (exfalso; omega) | (conv => whnf)) | (refine Ld.own 0 rfl rfl ?_; conv => whnf)
    all_goals exact RetN.all rfl
theorem perPs_no {nm : List Nat} : ∀ {ts : List Tr} {j : Nat} {t : Tr}, ts[j]? = some t → perP nm t = false → perPs nm ts = false
  | [], _, _, h, _ => by simp at h
  | u :: ts, 0, t, h, e => by
    simp at h; subst h
    rw [perPs, e, Bool.false_and]
  | u :: ts, j + 1, t, h, e => by rw [perPs, perPs_no (ts := ts) (j := j) (by simpa using h) e, Bool.and_false]
theorem perPs_yes {nm : List Nat} : ∀ {ts : List Tr}, (∀ (j : Nat) t, ts[j]? = some t → perP nm t = true) → perPs nm ts = true
  | [], _ => by rw [perPs]
  | u :: ts, g => by rw [perPs, g 0 u rfl, perPs_yes fun j t h => g (j + 1) t (by simpa using h)]; rfl
theorem perRs_no {nm : List Nat} {w : Bool} : ∀ {ts : List Tr} {j : Nat} {t : Tr}, ts[j]? = some t → perR nm w t = false → perRs nm w ts = false
  | [], _, _, h, _ => by simp at h
  | u :: ts, 0, t, h, e => by
    simp at h; subst h
    rw [perRs, e, Bool.false_and]
  | u :: ts, j + 1, t, h, e => by rw [perRs, perRs_no (ts := ts) (j := j) (by simpa using h) e, Bool.and_false]
theorem perRs_yes {nm : List Nat} {w : Bool} : ∀ {ts : List Tr}, (∀ (j : Nat) t, ts[j]? = some t → perR nm w t = true) → perRs nm w ts = true
  | [], _ => by rw [perRs]
  | u :: ts, g => by rw [perRs, g 0 u rfl, perRs_yes fun j t h => g (j + 1) t (by simpa using h)]; rfl
set_option maxRecDepth 20000 in
set_option maxHeartbeats 2000000 in
theorem periodic_ct (nm : List Nat) (hnm : ∀ y ∈ nm, y < 256) : ∀ (t : Tr) (d : Nat), okT d t → ∀ (h : Heap) (vs : List Value), Tb h → IsE h vs t → Fn0 T F.expr_periodic [.agg vs.toArray, .string (txt nm)] h fun v h' => v = .bool (perP nm t) := by
  refine tree_ind fun t ih => ?_
  intro d hok h vs tb w
  obtain ⟨op, arg, neg, l, m, name, ks⟩ := t
  obtain ⟨a, b, s, rfl, ho, ha, hv, hb, hk⟩ := w.isK
  rw [okT] at hok
  obtain ⟨hd, hnb, hoks⟩ := hok
  have hkl := hk.len
  have hks : ks.length ≤ 3 := by
    have h1 := hnb.1
    have h2 := kidsN_le op
    omega
  have hk1 : op = 11 → ks = [ks.getD 0 zeroT] := fun o => ks_one hnb.1 (by rw [o]; rfl)
  have f1 : op = 2 → name = nm → perP nm (.mk op arg neg l m name ks) = false := fun x y => by rw [perP, if_pos x, decide_eq_false (fun z => z y)]
  have f2 : op = 2 → ¬ name = nm → perP nm (.mk op arg neg l m name ks) = true := fun x y => by rw [perP, if_pos x, decide_eq_true y]
  have f3 : ¬ op = 2 → op = 11 → 3 ≤ arg → arg ≤ 5 → linT nm (ks.getD 0 zeroT) = true → perP nm (.mk op arg neg l m name ks) = true := fun x y z u v => by rw [perP, if_neg x, if_pos ⟨y, z, u, v⟩]
  have f4 : ¬ op = 2 → ¬ (op = 11 ∧ 3 ≤ arg ∧ arg ≤ 5 ∧ linT nm (ks.getD 0 zeroT) = true) → perP nm (.mk op arg neg l m name ks) = perPs nm ks := fun x y => by rw [perP, if_neg x, if_neg y]
  have f5 := fun (j : Nat) (t : Tr) (a : ks[j]? = some t) => perPs_no (nm := nm) a
  have f6 := perPs_yes (nm := nm) (ts := ks)
  obtain ⟨R, hR⟩ : ∃ R, R = perP nm (.mk op arg neg l m name ks) := ⟨_, rfl⟩
  rw [← hR] at f1 f2 f3 f4 ⊢
  clear hR
  by_cases o2 : op = 2
  · refine fn0_of_codeI ok D.expr_periodic rfl ?_
    conv => whnf
    repeat ((first | refine opsI.step ?_ | refine codeI.step ?_); conv => whnf)
    repeat' first | ((first | refine opsI.step ?_ | refine codeI.step ?_); conv => whnf) | (intro (_ : Nat); conv => whnf) | (refine cnd_eq (fun _ => ?_) (fun _ => ?_) <;> first | (exfalso; omega) | (conv => whnf)) | (refine Ld.own 0 rfl rfl ?_; conv => whnf)
    refine RetN.all ?_
    congr 1
    by_cases e : name = nm
    · rw [f1 o2 e, e]
      unfold seq
      rw [beq_self_eq_true]; rfl
    · rw [f2 o2 e, seq_ne fun x => e (txt_inj hb hnm x)]; rfl
  have c0 := fun (x : Tr) (e : ks[0]? = some x) h vs tb w => linear_ct nm hnm x (d + 1) (okTs_get hoks e) h vs tb w
  by_cases o11 : op = 11
  · obtain ⟨k0, hk0⟩ : ∃ k0, k0 = ks.getD 0 zeroT := ⟨_, rfl⟩
    have hks1 := hk1 o11
    rw [← hk0] at hks1 f3 f4
    have e0 : ks[0]? = some k0 := by rw [hks1]; rfl
    have hl1 : ks.length = 1 := by rw [hks1]; rfl
    replace c0 := c0 k0 e0
    obtain ⟨L0, hL0⟩ : ∃ C, C = linT nm k0 := ⟨_, rfl⟩
    rw [← hL0] at c0 f3 f4
    refine fn0_of_codeI ok D.expr_periodic rfl ?_
    conv => whnf
    repeat ((first | refine opsI.step ?_ | refine codeI.step ?_); conv => whnf)
    repeat' first | (show Idx _ _ _ _ _; first | (refine Idx.kid hk 0 k0 rfl e0 (fun ad op2 arg2 neg2 a2 b2 name2 s2 hE hld => ?_); conv => whnf)) | (refine hld _ _ _ (by (iterate 30 (try first | assumption | exact Heap.le_refl _)); first | done | assumption) ?_; conv => whnf) | ((first | refine opsI.step ?_ | refine codeI.step ?_); conv => whnf) | (intro (_ : Nat); conv => whnf) | (show CallN _ _ _ _ _ _; first | (refine CallN.fn rfl (c0 _ _ (by assumption) (by assumption)) (fun v h' hl2 hr => ?_); subst hr; conv => whnf)) | (show cnd _ _ _; first | (refine cnd_le (fun _ => ?_) (fun _ => ?_) <;> first | (exfalso; omega) | (conv => whnf)) | (refine cnd_eq (fun _ => ?_) (fun _ => ?_) <;> first | (exfalso; omega) | (conv => whnf)) | (refine cnd_bool (fun hb => ?_) (fun hb => ?_) <;> (first | cases hb | subst hb) <;> (conv => whnf))) | (refine Ld.own 0 rfl rfl ?_; conv => whnf)
    any_goals
      (rw [f3 o2 o11 (by omega) (by omega) rfl]; exact RetN.all rfl)
    all_goals
      have f4' := f4 o2 (fun x => by
        obtain ⟨x1, x2, x3, x4⟩ := x
        first | omega | cases x4)
      rw [f4']
      clear f1 f2 f3 f4
      refine LoopN.of (fun r ρ hx L => ∃ j : Nat, r = ks.length - j ∧ h.le hx ∧ j ≤ ks.length ∧ rd ρ 38 = .int .i64 j ∧ Hq (∀ (i : Nat) t, i < j → ks[i]? = some t → perP nm t = true)) ks.length
        ⟨0, rfl, (by (iterate 30 (try first | assumption | exact Heap.le_refl _)); first | done | assumption), Nat.zero_le _, rfl, ⟨fun i t x => absurd x (Nat.not_lt_zero _)⟩⟩ ?_
      conv => whnf
      repeat intro _
      rename_i r hx L2 hI
      obtain ⟨j, rfl, hle, hj, e38, hq⟩ := hI
      conv at e38 => lhs; whnf
      subst e38
      by_cases hjl : j = ks.length
      · subst hjl
        rw [f6 fun j t x => hq.out j t (List.getElem?_eq_some_iff.1 x).1 x]
        conv => whnf
        repeat ((first | refine opsI.step ?_ | refine codeI.step ?_); conv => whnf)
        repeat' first | ((first | refine opsI.step ?_ | refine codeI.step ?_); conv => whnf) | (refine cnd_lt (fun _ => ?_) (fun _ => ?_) <;> first | (exfalso; omega) | (conv => whnf))
        exact RetN.all rfl
      · obtain ⟨t, ht⟩ : ∃ t, ks[j]? = some t := ⟨_, List.getElem?_eq_getElem (by omega)⟩
        have c2 := fun h vs tb w => ih t (szT_kid ht) (d + 1) (okTs_get hoks ht) h vs tb w
        have f5 := f5 j t ht
        obtain ⟨C, hC⟩ : ∃ C, C = perP nm t := ⟨_, rfl⟩
        rw [← hC] at c2 f5
        have hkx := hk.mono hle
        conv => whnf
        repeat ((first | refine opsI.step ?_ | refine codeI.step ?_); conv => whnf)
        repeat' first | (show Idx _ _ _ _ _; first | (refine Idx.kid hkx j t (by omega) ht (fun ad op2 arg2 neg2 a2 b2 name2 s2 hE hld => ?_); conv => whnf)) | (refine hld _ _ _ (Heap.le_refl _) ?_; conv => whnf) | ((first | refine opsI.step ?_ | refine codeI.step ?_); conv => whnf) | (intro (_ : Nat); conv => whnf) | (show CallN _ _ _ _ _ _; first | (refine CallN.fn rfl (c2 _ _ (by (iterate 30 (try first | assumption | refine Tb.mono ?_ (by assumption))); first | done | assumption) (by assumption)) (fun v h' hl2 hr => ?_); subst hr; conv => whnf)) | (refine WrapN.i64 (by omega) (by omega) ?_; conv => whnf) | (show cnd _ _ _; first | (refine cnd_lt (fun _ => ?_) (fun _ => ?_) <;> first | (exfalso; omega) | (conv => whnf)) | (refine cnd_not ?_) | (refine cnd_bool (fun hb => ?_) (fun hb => ?_) <;> (first | cases hb | subst hb) <;> (conv => whnf))) | (refine LdN.own 0 rfl rfl ?_; conv => whnf) | (refine Sto.lit 0 rfl rfl rfl ?_; conv => whnf)
        · exact ⟨rfl, ks.length - (j + 1), by omega, j + 1, rfl, (by (iterate 30 (try first | assumption | refine Heap.le_trans ?_ (by assumption))); first | done | assumption), by omega, vi (by omega), ⟨fun i t' x y => by
            rcases Nat.lt_succ_iff_lt_or_eq.1 x with x | rfl
            · exact hq.out i t' x y
            · rw [ht] at y; cases y; rw [← hC]⟩⟩
        · rw [f5 rfl]; exact RetN.all rfl
  · have f4' := f4 o2 (fun x => o11 x.1)
    rw [f4']
    clear f1 f2 f3 f4
    refine fn0_of_codeI ok D.expr_periodic rfl ?_
    conv => whnf
    repeat ((first | refine opsI.step ?_ | refine codeI.step ?_); conv => whnf)
    repeat' first | ((first | refine opsI.step ?_ | refine codeI.step ?_); conv => whnf) | (intro (_ : Nat); conv => whnf) | (refine cnd_eq (fun _ => ?_) (fun _ => ?_) <;> first | (exfalso; omega) | (conv => whnf)) | (refine Ld.own 0 rfl rfl ?_; conv => whnf)
    all_goals
      refine LoopN.of (fun r ρ hx L => ∃ j : Nat, r = ks.length - j ∧ h.le hx ∧ j ≤ ks.length ∧ rd ρ 38 = .int .i64 j ∧ Hq (∀ (i : Nat) t, i < j → ks[i]? = some t → perP nm t = true)) ks.length
        ⟨0, rfl, (by (iterate 30 (try first | assumption | exact Heap.le_refl _)); first | done | assumption), Nat.zero_le _, rfl, ⟨fun i t x => absurd x (Nat.not_lt_zero _)⟩⟩ ?_
      conv => whnf
      repeat intro _
      rename_i r hx L2 hI
      obtain ⟨j, rfl, hle, hj, e38, hq⟩ := hI
      conv at e38 => lhs; whnf
      subst e38
      by_cases hjl : j = ks.length
      · subst hjl
        rw [f6 fun j t x => hq.out j t (List.getElem?_eq_some_iff.1 x).1 x]
        conv => whnf
        repeat ((first | refine opsI.step ?_ | refine codeI.step ?_); conv => whnf)
        repeat' first | ((first | refine opsI.step ?_ | refine codeI.step ?_); conv => whnf) | (refine cnd_lt (fun _ => ?_) (fun _ => ?_) <;> first | (exfalso; omega) | (conv => whnf))
        exact RetN.all rfl
      · obtain ⟨t, ht⟩ : ∃ t, ks[j]? = some t := ⟨_, List.getElem?_eq_getElem (by omega)⟩
        have c2 := fun h vs tb w => ih t (szT_kid ht) (d + 1) (okTs_get hoks ht) h vs tb w
        have f5 := f5 j t ht
        obtain ⟨C, hC⟩ : ∃ C, C = perP nm t := ⟨_, rfl⟩
        rw [← hC] at c2 f5
        have hkx := hk.mono hle
        conv => whnf
        repeat ((first | refine opsI.step ?_ | refine codeI.step ?_); conv => whnf)
        repeat' first | (show Idx _ _ _ _ _; first | (refine Idx.kid hkx j t (by omega) ht (fun ad op2 arg2 neg2 a2 b2 name2 s2 hE hld => ?_); conv => whnf)) | (refine hld _ _ _ (Heap.le_refl _) ?_; conv => whnf) | ((first | refine opsI.step ?_ | refine codeI.step ?_); conv => whnf) | (intro (_ : Nat); conv => whnf) | (show CallN _ _ _ _ _ _; first | (refine CallN.fn rfl (c2 _ _ (by (iterate 30 (try first | assumption | refine Tb.mono ?_ (by assumption))); first | done | assumption) (by assumption)) (fun v h' hl2 hr => ?_); subst hr; conv => whnf)) | (refine WrapN.i64 (by omega) (by omega) ?_; conv => whnf) | (show cnd _ _ _; first | (refine cnd_lt (fun _ => ?_) (fun _ => ?_) <;> first | (exfalso; omega) | (conv => whnf)) | (refine cnd_not ?_) | (refine cnd_bool (fun hb => ?_) (fun hb => ?_) <;> (first | cases hb | subst hb) <;> (conv => whnf))) | (refine LdN.own 0 rfl rfl ?_; conv => whnf) | (refine Sto.lit 0 rfl rfl rfl ?_; conv => whnf)
        · exact ⟨rfl, ks.length - (j + 1), by omega, j + 1, rfl, (by (iterate 30 (try first | assumption | refine Heap.le_trans ?_ (by assumption))); first | done | assumption), by omega, vi (by omega), ⟨fun i t' x y => by
            rcases Nat.lt_succ_iff_lt_or_eq.1 x with x | rfl
            · exact hq.out i t' x y
            · rw [ht] at y; cases y; rw [← hC]⟩⟩
        · rw [f5 rfl]; exact RetN.all rfl
set_option maxRecDepth 20000 in
set_option maxHeartbeats 2000000 in
theorem rperiodic_ct (nm : List Nat) (hnm : ∀ y ∈ nm, y < 256) : ∀ (t : Tr) (W : Bool) (d : Nat), okT d t → ∀ (h : Heap) (vs : List Value), IsE h vs t → Fn0 T F.ref04_periodic [.agg vs.toArray, .string (txt nm), .bool W] h fun v h' => v = .bool (perR nm W t) := by
  refine tree_ind fun t ih => ?_
  intro W d hok h vs w
  obtain ⟨op, arg, neg, l, m, name, ks⟩ := t
  obtain ⟨a, b, s, rfl, ho, ha, hv, hb, hk⟩ := w.isK
  rw [okT] at hok
  obtain ⟨hd, hnb, hoks⟩ := hok
  have hkl := hk.len
  have hks : ks.length ≤ 3 := by
    have h1 := hnb.1
    have h2 := kidsN_le op
    omega
  by_cases o2 : op = 2 ∧ name = nm
  · have f1 : perR nm W (.mk op arg neg l m name ks) = W := by rw [perR, if_pos o2]
    rw [f1]
    obtain ⟨o2, rfl⟩ := o2
    refine fn0_of_codeI ok D.ref04_periodic rfl ?_
    conv => whnf
    repeat ((first | refine opsI.step ?_ | refine codeI.step ?_); conv => whnf)
    repeat' first | (show cnd _ _ _; first | (refine cnd_txt hb hnm (fun _ => ?_) (fun hx => absurd rfl hx); conv => whnf) | (refine cnd_eq (fun _ => ?_) (fun _ => ?_) <;> first | (exfalso; omega) | (conv => whnf))) | ((first | refine opsI.step ?_ | refine codeI.step ?_); conv => whnf) | (intro (_ : Nat); conv => whnf) | (refine Ld.own 0 rfl rfl ?_; conv => whnf)
    all_goals exact RetN.all rfl
  by_cases o3 : op = 11 ∧ 3 ≤ arg ∧ arg ≤ 5
  · have hks1 := ks_one hnb.1 (by rw [o3.1]; rfl)
    obtain ⟨k0, hk0⟩ : ∃ k0, k0 = ks.getD 0 zeroT := ⟨_, rfl⟩
    have f1 : perR nm W (.mk op arg neg l m name ks) = perRs nm (linT nm k0) ks := by rw [perR, if_neg o2, if_pos o3, hk0]
    rw [← hk0] at hks1
    have e0 : ks[0]? = some k0 := by rw [hks1]; rfl
    have hl1 : ks.length = 1 := by rw [hks1]; rfl
    have c0 := fun h vs w => rlinear_ct nm hnm k0 (d + 1) (okTs_get hoks e0) h vs w
    obtain ⟨L0, hL0⟩ : ∃ C, C = linT nm k0 := ⟨_, rfl⟩
    rw [← hL0] at c0 f1
    have f5 := fun (j : Nat) (t : Tr) (a : ks[j]? = some t) => perRs_no (nm := nm) (w := L0) a
    have f6 := perRs_yes (nm := nm) (w := L0) (ts := ks)
    rw [f1]
    obtain ⟨o31, o32, o33⟩ := o3
    refine fn0_of_codeI ok D.ref04_periodic rfl ?_
    conv => whnf
    repeat ((first | refine opsI.step ?_ | refine codeI.step ?_); conv => whnf)
    repeat' first | (show SeqN _ _ _ _ _ _ _; first | (refine SeqN.go ?_; conv => whnf)) | (show Idx _ _ _ _ _; first | (refine Idx.kid hk 0 k0 rfl e0 (fun ad op2 arg2 neg2 a2 b2 name2 s2 hE hld => ?_); conv => whnf)) | (refine hld _ _ _ (by (iterate 30 (try first | assumption | exact Heap.le_refl _)); first | done | assumption) ?_; conv => whnf) | ((first | refine opsI.step ?_ | refine codeI.step ?_); conv => whnf) | (intro (_ : Nat); conv => whnf) | (show CallN _ _ _ _ _ _; first | (refine CallN.fn rfl (c0 _ _ (by assumption)) (fun v h' hl2 hr => ?_); subst hr; conv => whnf)) | (refine cnd_eq (fun _ => ?_) (fun _ => ?_) <;> first | (exfalso; omega) | (conv => whnf)) | (refine Ld.own 0 rfl rfl ?_; conv => whnf)
    all_goals
      rename Nat => be
      refine LoopN.of (fun r ρ hx L => ∃ j : Nat, r = ks.length - j ∧ h.le hx ∧ j ≤ ks.length ∧ rd ρ 7 = .int .i64 j ∧ L = [(be, .cells [.int .i64 op, .int .i64 arg, .bool neg, a.val, b.val, .string (txt name), s.val].toArray Ty.api_Expr (0, 0))] ∧ Hq (∀ (i : Nat) t, i < j → ks[i]? = some t → perR nm L0 t = true)) ks.length
        ⟨0, rfl, (by assumption), Nat.zero_le _, rfl, rfl, ⟨fun i t x => absurd x (Nat.not_lt_zero _)⟩⟩ ?_
      conv => whnf
      repeat intro _
      rename_i r hx L2 hI
      obtain ⟨j, rfl, hle, hj, e7, rfl, hq⟩ := hI
      conv at e7 => lhs; whnf
      subst e7
      by_cases hjl : j = ks.length
      · subst hjl
        rw [f6 fun j t x => hq.out j t (List.getElem?_eq_some_iff.1 x).1 x]
        conv => whnf
        repeat ((first | refine opsI.step ?_ | refine codeI.step ?_); conv => whnf)
        repeat' first | ((first | refine opsI.step ?_ | refine codeI.step ?_); conv => whnf) | (refine cnd_lt (fun _ => ?_) (fun _ => ?_) <;> first | (exfalso; omega) | (conv => whnf)) | (refine Ld.own 0 rfl rfl ?_; conv => whnf)
        exact RetN.all rfl
      · obtain ⟨t, ht⟩ : ∃ t, ks[j]? = some t := ⟨_, List.getElem?_eq_getElem (by omega)⟩
        have c2 := fun h vs w => ih t (szT_kid ht) L0 (d + 1) (okTs_get hoks ht) h vs w
        have f5 := f5 j t ht
        obtain ⟨C, hC⟩ : ∃ C, C = perR nm L0 t := ⟨_, rfl⟩
        rw [← hC] at c2 f5
        have hkx := hk.mono hle
        conv => whnf
        repeat ((first | refine opsI.step ?_ | refine codeI.step ?_); conv => whnf)
        repeat' first | (show Idx _ _ _ _ _; first | (refine Idx.kid hkx j t (by omega) ht (fun ad op2 arg2 neg2 a2 b2 name2 s2 hE hld => ?_); conv => whnf)) | (refine hld _ _ _ (Heap.le_refl _) ?_; conv => whnf) | ((first | refine opsI.step ?_ | refine codeI.step ?_); conv => whnf) | (show CallN _ _ _ _ _ _; first | (refine CallN.fn rfl (c2 _ _ (by assumption)) (fun v h' hl2 hr => ?_); subst hr; conv => whnf)) | (refine WrapN.i64 (by omega) (by omega) ?_; conv => whnf) | (show cnd _ _ _; first | (refine cnd_lt (fun _ => ?_) (fun _ => ?_) <;> first | (exfalso; omega) | (conv => whnf)) | (refine cnd_not ?_) | (refine cnd_bool (fun hb => ?_) (fun hb => ?_) <;> (first | cases hb | subst hb) <;> (conv => whnf))) | (refine Ld.own 0 rfl rfl ?_; conv => whnf)
        · exact ⟨rfl, ks.length - (j + 1), by omega, j + 1, rfl, (by (iterate 30 (try first | assumption | refine Heap.le_trans ?_ (by assumption))); first | done | assumption), by omega, vi (by omega), rfl, ⟨fun i t' x y => by
            rcases Nat.lt_succ_iff_lt_or_eq.1 x with x | rfl
            · exact hq.out i t' x y
            · rw [ht] at y; cases y; rw [← hC]⟩⟩
        · rw [f5 rfl]; exact RetN.all rfl
  · have f1 : perR nm W (.mk op arg neg l m name ks) = perRs nm W ks := by rw [perR, if_neg o2, if_neg o3]
    have f5 := fun (j : Nat) (t : Tr) (a : ks[j]? = some t) => perRs_no (nm := nm) (w := W) a
    have f6 := perRs_yes (nm := nm) (w := W) (ts := ks)
    rw [f1]
    refine fn0_of_codeI ok D.ref04_periodic rfl ?_
    conv => whnf
    repeat ((first | refine opsI.step ?_ | refine codeI.step ?_); conv => whnf)
    repeat' first | (show SeqN _ _ _ _ _ _ _; first | (refine SeqN.go ?_; conv => whnf)) | (show cnd _ _ _; first | (refine cnd_txt hb hnm (fun hx => absurd ⟨by assumption, hx⟩ o2) (fun _ => ?_); conv => whnf) | (refine cnd_eq (fun _ => ?_) (fun _ => ?_) <;> first | (exfalso; omega) | (conv => whnf))) | ((first | refine opsI.step ?_ | refine codeI.step ?_); conv => whnf) | (intro (_ : Nat); conv => whnf) | (refine Ld.own 0 rfl rfl ?_; conv => whnf)
    all_goals try (exfalso; omega)
    all_goals
      rename Nat => be
      refine LoopN.of (fun r ρ hx L => ∃ j : Nat, r = ks.length - j ∧ h.le hx ∧ j ≤ ks.length ∧ rd ρ 7 = .int .i64 j ∧ L = [(be, .cells [.int .i64 op, .int .i64 arg, .bool neg, a.val, b.val, .string (txt name), s.val].toArray Ty.api_Expr (0, 0))] ∧ Hq (∀ (i : Nat) t, i < j → ks[i]? = some t → perR nm W t = true)) ks.length
        ⟨0, rfl, (by (iterate 30 (try first | assumption | exact Heap.le_refl _)); first | done | assumption), Nat.zero_le _, rfl, rfl, ⟨fun i t x => absurd x (Nat.not_lt_zero _)⟩⟩ ?_
      conv => whnf
      repeat intro _
      rename_i r hx L2 hI
      obtain ⟨j, rfl, hle, hj, e7, rfl, hq⟩ := hI
      conv at e7 => lhs; whnf
      subst e7
      by_cases hjl : j = ks.length
      · subst hjl
        rw [f6 fun j t x => hq.out j t (List.getElem?_eq_some_iff.1 x).1 x]
        conv => whnf
        repeat ((first | refine opsI.step ?_ | refine codeI.step ?_); conv => whnf)
        repeat' first | ((first | refine opsI.step ?_ | refine codeI.step ?_); conv => whnf) | (refine cnd_lt (fun _ => ?_) (fun _ => ?_) <;> first | (exfalso; omega) | (conv => whnf)) | (refine Ld.own 0 rfl rfl ?_; conv => whnf)
        exact RetN.all rfl
      · obtain ⟨t, ht⟩ : ∃ t, ks[j]? = some t := ⟨_, List.getElem?_eq_getElem (by omega)⟩
        have c2 := fun h vs w => ih t (szT_kid ht) W (d + 1) (okTs_get hoks ht) h vs w
        have f5 := f5 j t ht
        obtain ⟨C, hC⟩ : ∃ C, C = perR nm W t := ⟨_, rfl⟩
        rw [← hC] at c2 f5
        have hkx := hk.mono hle
        conv => whnf
        repeat ((first | refine opsI.step ?_ | refine codeI.step ?_); conv => whnf)
        repeat' first | (show Idx _ _ _ _ _; first | (refine Idx.kid hkx j t (by omega) ht (fun ad op2 arg2 neg2 a2 b2 name2 s2 hE hld => ?_); conv => whnf)) | (refine hld _ _ _ (Heap.le_refl _) ?_; conv => whnf) | ((first | refine opsI.step ?_ | refine codeI.step ?_); conv => whnf) | (show CallN _ _ _ _ _ _; first | (refine CallN.fn rfl (c2 _ _ (by assumption)) (fun v h' hl2 hr => ?_); subst hr; conv => whnf)) | (refine WrapN.i64 (by omega) (by omega) ?_; conv => whnf) | (show cnd _ _ _; first | (refine cnd_lt (fun _ => ?_) (fun _ => ?_) <;> first | (exfalso; omega) | (conv => whnf)) | (refine cnd_not ?_) | (refine cnd_bool (fun hb => ?_) (fun hb => ?_) <;> (first | cases hb | subst hb) <;> (conv => whnf))) | (refine Ld.own 0 rfl rfl ?_; conv => whnf)
        · exact ⟨rfl, ks.length - (j + 1), by omega, j + 1, rfl, (by (iterate 30 (try first | assumption | refine Heap.le_trans ?_ (by assumption))); first | done | assumption), by omega, vi (by omega), rfl, ⟨fun i t' x y => by
            rcases Nat.lt_succ_iff_lt_or_eq.1 x with x | rfl
            · exact hq.out i t' x y
            · rw [ht] at y; cases y; rw [← hC]⟩⟩
        · rw [f5 rfl]; exact RetN.all rfl
end Go.Proofs.YtchcjbbnkcodjaaGreatDoor