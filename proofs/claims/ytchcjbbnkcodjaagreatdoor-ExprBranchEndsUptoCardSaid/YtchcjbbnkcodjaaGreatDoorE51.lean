/- Branch: the reference's side, the count of cases; the laws. -/
import Derived.Test.YtchcjbbnkcodjaaGreatDoorE50
set_option linter.unusedVariables false
set_option linter.unusedSimpArgs false
namespace Go.Vc
open Go Go.Dig
theorem LoopN.keepL {body : Post → Env → Heap → Vc.Own → Prop} {ws : List Nat} {Q : Post} {ρ : Env} {h : Heap} {L : Vc.Own} (I : Nat → Env → Heap → Prop) (n0 : Nat) (h0 : I n0 ρ h)
    (hr : allW ws 0 ρ fun ρ' => ∀ r h', h.le h' → I r ρ' h' → body (fun e ρ'' h'' L'' => match e with | .normal => ρ'' = over ws 0 ρ ρ'' ∧ ∃ m, m < r ∧ h.le h'' ∧ L'' = L ∧ I m ρ'' h'' | e => Q e ρ'' h'' L'') ρ' h' L) : LoopN body ws Q ρ h L := by
  refine LoopN.of (fun r ρ' h' L' => h.le h' ∧ L' = L ∧ I r ρ' h') n0 ⟨Heap.le_refl _, rfl, h0⟩ ?_
  refine allW_imp (fun ρ' x r h' L' hI => ?_) hr
  obtain ⟨h1, rfl, h3⟩ := hI
  exact x r h' h1 h3
end Go.Vc
namespace Go.Proofs.YtchcjbbnkcodjaaGreatDoor
open Go Go.Vc Go.Dig
set_option maxRecDepth 20000 in
theorem RFits_ct (t : Tr) (h : Heap) (vs : List Value) (w : IsE h vs t) : Fn0 T F.ref04_Fits [.agg vs.toArray] h fun v h' => v = .bool (dec (ValT t)) := by
  have hv := wlkT_val t
  have c1 := fun h w => rwalk_ct t h vs 1 300 w (by omega) (by omega)
  obtain ⟨C, hC⟩ : ∃ C, C = wlkT 1 300 t := ⟨_, rfl⟩
  rw [← hC] at c1 hv
  obtain ⟨⟨op, arg, neg, l, m, name, ks⟩, ht⟩ : ∃ x, x = t := ⟨_, rfl⟩
  obtain ⟨a, b, s, hvs, -⟩ := (ht.symm ▸ w : IsE h vs (.mk op arg neg l m name ks)).isK
  subst hvs
  refine fn0_of_codeI ok D.ref04_Fits rfl ?_
  conv => whnf
  repeat ((first | refine opsI.step ?_ | refine codeI.step ?_); conv => whnf)
  repeat' first | (show CallN _ _ _ _ _ _; first | (refine CallN.fn rfl (c1 _ (by assumption)) (fun v h' hl2 hr => ?_); subst hr; conv => whnf)) | ((first | refine opsI.step ?_ | refine codeI.step ?_); conv => whnf) | (intro (_ : Nat); conv => whnf) | (refine LdN.own 0 rfl rfl ?_; conv => whnf)
  refine RetN.all ?_
  congr 1
  unfold le
  rw [dec_eq]
  refine decide_eq_decide.2 ?_
  rw [← hv]
set_option maxRecDepth 20000 in
theorem Rfits_ct (t : Tr) (h : Heap) (vs : List Value) (w : IsE h vs t) : Fn0 T F.ref04_fits [.agg vs.toArray] h fun v h' => v = .bool (dec (ValT t)) := by
  have c1 := fun h w => RFits_ct t h vs w
  obtain ⟨⟨op, arg, neg, l, m, name, ks⟩, ht⟩ : ∃ x, x = t := ⟨_, rfl⟩
  obtain ⟨a, b, s, hvs, -⟩ := (ht.symm ▸ w : IsE h vs (.mk op arg neg l m name ks)).isK
  subst hvs
  refine fn0_of_codeI ok D.ref04_fits rfl ?_
  conv => whnf
  repeat ((first | refine opsI.step ?_ | refine codeI.step ?_); conv => whnf)
  repeat' first | (show CallN _ _ _ _ _ _; first | (refine CallN.fn rfl (c1 _ (by assumption)) (fun v h' hl2 hr => ?_); subst hr; conv => whnf)) | ((first | refine opsI.step ?_ | refine codeI.step ?_); conv => whnf) | (intro (_ : Nat); conv => whnf) | (refine LdN.own 0 rfl rfl ?_; conv => whnf)
  exact RetN.all rfl
set_option maxRecDepth 20000 in
set_option maxHeartbeats 2000000 in
theorem RBranch_ct (t : Tr) (h : Heap) (vs : List Value) (w : IsE h vs t) : Fn0 T F.ref04_Branch [.agg vs.toArray] h fun v h' => Res4 h' v (brT id t) := by
  have c1 := fun h w => RValid_ct t h vs w
  have c3 := fun h w (x : ValT t) => rresolved_ct t 1 x.1 h vs w
  have c5 := fun u h vs w => Rfits_ct u h vs w
  have r1 : ¬ ValT t → brT id t = (zeroT, zeroT, zeroT, 40) := fun x => brT_no x
  have r2 : ValT t → resT t = none → brT id t = (zeroT, zeroT, zeroT, 42) := fun x y => brT_none x y
  have r3 : ∀ c y n, ValT t → resT t = some (c, y, n) → ¬ (ValT c ∧ ValT y ∧ ValT n) → brT id t = (zeroT, zeroT, zeroT, 4) := fun c y n x r z => brT_big x r z
  have r4 : ∀ c y n, ValT t → resT t = some (c, y, n) → ValT c → ValT y → ValT n → brT id t = (c, y, n, 0) := fun c y n x r z1 z2 z3 => brT_ok x r ⟨z1, z2, z3⟩
  obtain ⟨R, hR⟩ : ∃ R, R = brT id t := ⟨_, rfl⟩
  obtain ⟨RS, hRS⟩ : ∃ R, R = resT t := ⟨_, rfl⟩
  rw [← hR] at r1 r2
  rw [← hRS] at c3 r2
  simp only [← hR, ← hRS] at r3 r4
  rw [← hR]
  clear hR hRS
  obtain ⟨⟨op, arg, neg, l, m, name, ks⟩, ht⟩ : ∃ x, x = t := ⟨_, rfl⟩
  obtain ⟨a, b, s, hvs, -⟩ := (ht.symm ▸ w : IsE h vs (.mk op arg neg l m name ks)).isK
  subst hvs
  refine fn0_of_codeI ok D.ref04_Branch rfl ?_
  conv => whnf
  repeat ((first | refine opsI.step ?_ | refine codeI.step ?_); conv => whnf)
  repeat' first | (show DrawN _ _ _ _ _ _; first | (refine DrawN.own [_, _, _] (by exact List.Sublist.cons_cons _ (List.Sublist.cons_cons _ (List.Sublist.cons_cons _ (List.nil_sublist _)))) (by decide +kernel) ?_; conv => whnf)) | (refine ⟨fun _ => ⟨HasLe.of_le (by first | exact Heap.le_refl _ | assumption | exact Heap.le_trans (by assumption) (by assumption)), by repeat first | exact List.nil_sublist _ | apply List.Sublist.cons_cons | refine List.Sublist.trans ?_ (List.sublist_append_right _ _) | apply List.Sublist.cons⟩, ?_⟩; conv => whnf) | ((first | refine opsI.step ?_ | refine codeI.step ?_); conv => whnf) | (intro (_ : Nat); conv => whnf) | (show LdN _ _ _ _ _; first | (refine LdN.own 0 rfl rfl ?_; conv => whnf) | (refine LdN.own 1 rfl rfl ?_; conv => whnf) | (refine LdN.own 2 rfl rfl ?_; conv => whnf) | (refine LdN.own 3 rfl rfl ?_; conv => whnf) | (refine LdN.own 4 rfl rfl ?_; conv => whnf) | (refine LdN.own 5 rfl rfl ?_; conv => whnf)) | (show CallN _ _ _ _ _ _; first | (refine CallN.fn rfl (c1 _ (by assumption)) (fun v h' hl2 hr => ?_); subst hr; conv => whnf) | (refine CallN.fn rfl (c3 _ (by (iterate 30 (try first | assumption | refine IsE.mono ?_ (by assumption))); first | done | assumption) (by assumption)) (fun v h' hl2 hr => ?_); obtain ⟨_, _, _, bb, CC, YY, NN, rfl, ⟨op4, ar4, ng4, nn4, dd4, nm4, ss4, rfl, hE4⟩, ⟨op5, ar5, ng5, nn5, dd5, nm5, ss5, rfl, hE5⟩, ⟨op6, ar6, ng6, nn6, dd6, nm6, ss6, rfl, hE6⟩, g1, g2⟩ := hr; conv => whnf) | (refine CallN.fn rfl (c5 CC _ _ (by (iterate 30 (try first | assumption | refine IsE.mono ?_ (by assumption))); first | done | assumption)) (fun v h' hl2 hr => ?_); subst hr; conv => whnf) | (refine CallN.fn rfl (c5 YY _ _ (by (iterate 30 (try first | assumption | refine IsE.mono ?_ (by assumption))); first | done | assumption)) (fun v h' hl2 hr => ?_); subst hr; conv => whnf) | (refine CallN.fn rfl (c5 NN _ _ (by (iterate 30 (try first | assumption | refine IsE.mono ?_ (by assumption))); first | done | assumption)) (fun v h' hl2 hr => ?_); subst hr; conv => whnf)) | (show cnd _ _ _; first | (refine cnd_not ?_) | (refine cnd_dec (fun _ => ?_) (fun _ => ?_) <;> first | (exfalso; omega) | (conv => whnf)) | (refine cnd_bool (fun hb => ?_) (fun hb => ?_) <;> (first | cases hb | subst hb) <;> (conv => whnf))) | (show Sto _ _ _ _; first | (refine Sto.lit 0 rfl rfl rfl ?_; conv => whnf) | (refine Sto.lit 1 rfl rfl rfl ?_; conv => whnf) | (refine Sto.lit 2 rfl rfl rfl ?_; conv => whnf) | (refine Sto.lit 3 rfl rfl rfl ?_; conv => whnf) | (refine Sto.lit 4 rfl rfl rfl ?_; conv => whnf) | (refine Sto.lit 5 rfl rfl rfl ?_; conv => whnf))
  all_goals first
    | (rw [r1 (by assumption)]; exact RetN.all (Res4.zero _ 40))
    | (rw [r2 (by assumption) (g2 rfl).1]; exact RetN.all (Res4.zero _ 42))
    | (rw [r4 CC YY NN (by assumption) (g1 rfl) (by assumption) (by assumption) (by assumption)]; exact RetN.all ⟨_, _, _, rfl, ⟨op4, ar4, ng4, nn4, dd4, nm4, ss4, rfl, (by (iterate 30 (try first | assumption | refine IsE.mono ?_ (by assumption))); first | done | assumption)⟩, ⟨op5, ar5, ng5, nn5, dd5, nm5, ss5, rfl, (by (iterate 30 (try first | assumption | refine IsE.mono ?_ (by assumption))); first | done | assumption)⟩, ⟨op6, ar6, ng6, nn6, dd6, nm6, ss6, rfl, (by (iterate 30 (try first | assumption | refine IsE.mono ?_ (by assumption))); first | done | assumption)⟩⟩)
    | (rw [r3 CC YY NN (by assumption) (g1 rfl) (fun z => by first | exact absurd z.1 (by assumption) | exact absurd z.2.1 (by assumption) | exact absurd z.2.2 (by assumption))]; exact RetN.all (Res4.zero _ 4))
set_option maxRecDepth 20000 in
set_option maxHeartbeats 2000000 in
theorem Branch_law (h : Heap) (tb : Tb h) (pw : Pw h) (t : Tr) (vs : List Value) (w : IsE h vs t) : Fn0 T F.law04_ExprBranch [.agg vs.toArray] h fun v h' => v = .bool true := by
  have c1 := fun h tb w => Branch_ct t h vs tb w
  have c2 := fun h w => RBranch_ct t h vs w
  have c9 := fun h tb pw => sane_ct h tb pw
  obtain ⟨a1, a2, a3⟩ := br_agree t _ rfl
  obtain ⟨⟨X1, X2, X3, X4⟩, hX⟩ : ∃ X, X = brT cloneT t := ⟨_, rfl⟩
  obtain ⟨⟨Y1, Y2, Y3, Y4⟩, hY⟩ : ∃ X, X = brT id t := ⟨_, rfl⟩
  rw [← hX] at c1 a1 a2 a3
  rw [← hY] at c2 a1 a2 a3
  replace c1 : ∀ h, Tb h → IsE h vs t → Fn0 T F.expr_Branch [.agg vs.toArray] h fun v h' => ∃ a b d, v = .tuple #[a, b, d, .int .i64 X4] ∧ VE h' a X1 ∧ VE h' b X2 ∧ VE h' d X3 := c1
  replace c2 : ∀ h, IsE h vs t → Fn0 T F.ref04_Branch [.agg vs.toArray] h fun v h' => ∃ a b d, v = .tuple #[a, b, d, .int .i64 Y4] ∧ VE h' a Y1 ∧ VE h' b Y2 ∧ VE h' d Y3 := c2
  have c3 := fun h vs us w w' => agrees_ct X1 Y1 X4 Y4 a1 h vs us w w'
  have c4 := fun h vs us w w' => agrees_ct X2 Y2 X4 Y4 a2 h vs us w w'
  have c5 := fun h vs us w w' => agrees_ct X3 Y3 X4 Y4 a3 h vs us w w'
  clear a1 a2 a3 hX hY
  obtain ⟨⟨op, arg, neg, l, m, name, ks⟩, ht⟩ : ∃ x, x = t := ⟨_, rfl⟩
  obtain ⟨a, b, s, hvs, -⟩ := (ht.symm ▸ w : IsE h vs (.mk op arg neg l m name ks)).isK
  subst hvs
  refine fn0_of_codeI ok D.law04_ExprBranch rfl ?_
  conv => whnf
  repeat ((first | refine opsI.step ?_ | refine codeI.step ?_); conv => whnf)
  repeat' first | (show CallN _ _ _ _ _ _; first | (refine CallN.fn rfl (c1 _ (by assumption) (by assumption)) (fun v h' hl2 hr => ?_); obtain ⟨_, _, _, rfl, ⟨op4, ar4, ng4, nn4, dd4, nm4, ss4, rfl, hE4⟩, ⟨op5, ar5, ng5, nn5, dd5, nm5, ss5, rfl, hE5⟩, ⟨op6, ar6, ng6, nn6, dd6, nm6, ss6, rfl, hE6⟩⟩ := hr; conv => whnf) | (refine CallN.fn rfl (c2 _ (by (iterate 30 (try first | assumption | refine IsE.mono ?_ (by assumption))); first | done | assumption)) (fun v h' hl2 hr => ?_); obtain ⟨_, _, _, rfl, ⟨op7, ar7, ng7, nn7, dd7, nm7, ss7, rfl, hE7⟩, ⟨op8, ar8, ng8, nn8, dd8, nm8, ss8, rfl, hE8⟩, ⟨op9, ar9, ng9, nn9, dd9, nm9, ss9, rfl, hE9⟩⟩ := hr; conv => whnf) | (refine CallN.fn rfl (c3 _ _ _ (by (iterate 30 (try first | assumption | refine IsE.mono ?_ (by assumption))); first | done | assumption) (by assumption)) (fun v h' hl2 hr => ?_); subst hr; conv => whnf) | (refine CallN.fn rfl (c4 _ _ _ (by (iterate 30 (try first | assumption | refine IsE.mono ?_ (by assumption))); first | done | assumption) (by (iterate 30 (try first | assumption | refine IsE.mono ?_ (by assumption))); first | done | assumption)) (fun v h' hl2 hr => ?_); subst hr; conv => whnf) | (refine CallN.fn rfl (c5 _ _ _ (by (iterate 30 (try first | assumption | refine IsE.mono ?_ (by assumption))); first | done | assumption) (by (iterate 30 (try first | assumption | refine IsE.mono ?_ (by assumption))); first | done | assumption)) (fun v h' hl2 hr => ?_); subst hr; conv => whnf) | (refine CallN.fn rfl (c9 _ (by (iterate 30 (try first | assumption | refine Tb.mono ?_ (by assumption))); first | done | assumption) (by iterate 9 (try first | assumption | refine Pw.mono ?_ (by assumption)))) (fun v h' hl2 hr => ?_); subst hr; conv => whnf)) | ((first | refine opsI.step ?_ | refine codeI.step ?_); conv => whnf) | (intro (_ : Nat); conv => whnf) | (show LdN _ _ _ _ _; first | (refine LdN.own 0 rfl rfl ?_; conv => whnf) | (refine LdN.own 1 rfl rfl ?_; conv => whnf) | (refine LdN.own 2 rfl rfl ?_; conv => whnf) | (refine LdN.own 3 rfl rfl ?_; conv => whnf) | (refine LdN.own 4 rfl rfl ?_; conv => whnf) | (refine LdN.own 5 rfl rfl ?_; conv => whnf)) | (show Sto _ _ _ _; first | (refine Sto.lit 0 rfl rfl rfl ?_; conv => whnf) | (refine Sto.lit 1 rfl rfl rfl ?_; conv => whnf) | (refine Sto.lit 2 rfl rfl rfl ?_; conv => whnf))
  all_goals exact RetN.all rfl
theorem cntCs_append : ∀ {a b : List Tr}, cntCs (a ++ b) = cntCs a + cntCs b
  | [], b => by rw [List.nil_append, cntCs, Nat.zero_add]
  | x :: a, b => by rw [List.cons_append, cntCs, cntCs, cntCs_append, Nat.add_assoc]
set_option maxRecDepth 20000 in
set_option maxHeartbeats 2000000 in
theorem cases_ct : ∀ (t : Tr) (d : Nat), okT d t → cntC t ≤ 300 → ∀ (h : Heap) (vs : List Value), IsE h vs t → Fn0 T F.law04_cases [.agg vs.toArray] h fun v h' => v = .int .i64 (cntC t) := by
  refine tree_ind fun t ih => ?_
  intro d hok hc h vs w
  obtain ⟨op, arg, neg, l, m, name, ks⟩ := t
  obtain ⟨a, b, s, rfl, ho, ha, hv, hb, hk⟩ := w.isK
  rw [okT] at hok
  obtain ⟨hd, hnb, hoks⟩ := hok
  have hkl := hk.len
  have hkc := hk.cap
  have hn1 := hnb.1
  have hks : ks.length ≤ 3 := by
    have h2 := kidsN_le op
    omega
  rw [cntC] at hc ⊢
  obtain ⟨c0, hc0⟩ : ∃ c : Nat, c = if roughB op then 1 else 0 := ⟨_, rfl⟩
  rw [← hc0] at hc ⊢
  have r1 : 12 ≤ op → op ≤ 15 → c0 = 1 := fun x y => by rw [hc0, if_pos (show roughB op from ⟨x, y⟩)]
  have r0 : ¬ (12 ≤ op ∧ op ≤ 15) → c0 = 0 := fun x => by rw [hc0]; exact if_neg (show ¬ roughB op from x)
  have ht : ∀ j t, ks[j]? = some t → cntCs (ks.take (j + 1)) = cntCs (ks.take j) + cntC t ∧ cntCs (ks.take j) + cntC t ≤ cntCs ks := fun j t e => by
    have e1 := take_tail e
    have e2 : cntCs ks = cntCs (ks.take j) + (cntC t + cntCs (ks.drop (j + 1))) := by
      conv => lhs; rw [e1]
      rw [cntCs_append, cntCs]
    refine ⟨?_, by omega⟩
    rw [take_snoc e, cntCs_append, cntCs, cntCs, Nat.add_zero]
  clear hc0
  obtain ⟨K, hK⟩ : ∃ K, K = cntCs ks := ⟨_, rfl⟩
  have hKl : cntCs (ks.take ks.length) = K := by rw [List.take_length, hK]
  rw [← hK] at hc ht ⊢
  clear hK
  refine fn0_of_codeI ok D.law04_cases rfl ?_
  conv => whnf
  repeat ((first | refine opsI.step ?_ | refine codeI.step ?_); conv => whnf)
  repeat' first | (show SeqN _ _ _ _ _ _ _; first | (refine SeqN.go ?_; conv => whnf)) | ((first | refine opsI.step ?_ | refine codeI.step ?_); conv => whnf) | (intro (_ : Nat); conv => whnf) | (refine cnd_eq (fun _ => ?_) (fun _ => ?_) <;> first | (exfalso; omega) | (conv => whnf)) | (refine Ld.own 0 rfl rfl ?_; conv => whnf)
  all_goals
    refine LoopN.keepL (fun r ρ hx => ∃ j : Nat, r = ks.length - j ∧ j ≤ ks.length ∧ rd ρ 4 = .int .i64 j ∧ rd ρ 3 = .int .i64 ((c0 + cntCs (ks.take j) : Nat) : Int)) ks.length ⟨0, rfl, Nat.zero_le _, rfl, vi (by rw [List.take_zero, cntCs]; first | (rw [r1 (by omega) (by omega)]; rfl) | (rw [r0 (by omega)]; rfl))⟩ ?_
    conv => whnf
    repeat intro _
    rename_i r hx hle hI
    obtain ⟨j, rfl, hj, e4, e3⟩ := hI
    conv at e4 => lhs; whnf
    subst e4
    obtain ⟨c, hcd⟩ : ∃ c : Nat, c = c0 + cntCs (ks.take j) := ⟨_, rfl⟩
    rw [← hcd] at e3
    conv at e3 => lhs; whnf
    subst e3
    have hkx := hk.mono hle
    by_cases hjl : j = ks.length
    · conv => whnf
      repeat ((first | refine opsI.step ?_ | refine codeI.step ?_); conv => whnf)
      repeat' first | ((first | refine opsI.step ?_ | refine codeI.step ?_); conv => whnf) | (refine cnd_lt (fun _ => ?_) (fun _ => ?_) <;> first | (exfalso; omega) | (conv => whnf)) | (refine Ld.own 0 rfl rfl ?_; conv => whnf)
      refine RetN.all (vi ?_)
      rw [hcd, hjl, hKl]
    · obtain ⟨t, het⟩ : ∃ t, ks[j]? = some t := ⟨_, List.getElem?_eq_getElem (by omega)⟩
      obtain ⟨ht1, ht2⟩ := ht j t het
      have c2 := fun h vs w => ih t (szT_kid het) (d + 1) (okTs_get hoks het) (by omega) h vs w
      obtain ⟨C, hC⟩ : ∃ C, C = cntC t := ⟨_, rfl⟩
      rw [← hC] at c2 ht1 ht2
      conv => whnf
      repeat ((first | refine opsI.step ?_ | refine codeI.step ?_); conv => whnf)
      repeat' first | (show Idx _ _ _ _ _; first | (refine Idx.kid hkx j t (by omega) het (fun ad op2 arg2 neg2 a2 b2 name2 s2 hE hld => ?_); conv => whnf)) | (refine hld _ _ _ (Heap.le_refl _) ?_; conv => whnf) | ((first | refine opsI.step ?_ | refine codeI.step ?_); conv => whnf) | (show CallN _ _ _ _ _ _; first | (refine CallN.fn rfl (c2 _ _ hE) (fun v h' hl2 hr => ?_); subst hr; conv => whnf)) | (refine WrapN.i64 (by omega) (by omega) ?_; conv => whnf) | (refine cnd_lt (fun _ => ?_) (fun _ => ?_) <;> first | (exfalso; omega) | (conv => whnf)) | (refine Ld.own 0 rfl rfl ?_; conv => whnf)
      exact ⟨rfl, ks.length - (j + 1), by omega, (by (iterate 30 (try first | assumption | refine Heap.le_trans ?_ (by assumption))); first | done | assumption), rfl, j + 1, rfl, by omega, vi (by omega), vi (by rw [ht1, hcd]; omega)⟩
set_option maxRecDepth 20000 in
theorem Smooth_ct (t : Tr) (h : Heap) (vs : List Value) (tb : Tb h) (w : IsE h vs t) : Fn0 T F.expr_Smooth [.agg vs.toArray] h fun v h' => ∃ (b : Bool) (e : Nat), v = .tuple #[.bool b, .int .i64 e] ∧ (ValT t → resT t = none → b = true ∧ e = 0) := by
  have c1 := fun h tb w => Valid_ct t h vs tb w
  have c2 := fun h w (x : ValT t) => smooth_ct t h vs w x.1
  obtain ⟨RS, hRS⟩ : ∃ R, R = resT t := ⟨_, rfl⟩
  rw [← hRS] at c2 ⊢
  clear hRS
  obtain ⟨⟨op, arg, neg, l, m, name, ks⟩, ht⟩ : ∃ x, x = t := ⟨_, rfl⟩
  obtain ⟨a, b, s, hvs, -⟩ := (ht.symm ▸ w : IsE h vs (.mk op arg neg l m name ks)).isK
  subst hvs
  refine fn0_of_codeI ok D.expr_Smooth rfl ?_
  conv => whnf
  repeat ((first | refine opsI.step ?_ | refine codeI.step ?_); conv => whnf)
  repeat' first | (show CallN _ _ _ _ _ _; first | (refine CallN.fn rfl (c1 _ (by assumption) (by assumption)) (fun v h' hl2 hr => ?_); subst hr; conv => whnf) | (refine CallN.fn rfl (c2 _ (by (iterate 30 (try first | assumption | refine IsE.mono ?_ (by assumption))); first | done | assumption) (by assumption)) (fun v h' hl2 hr => ?_); obtain ⟨rfl, rfl⟩ := hr; clear hl2; conv => whnf)) | ((first | refine opsI.step ?_ | refine codeI.step ?_); conv => whnf) | (intro (_ : Nat); conv => whnf) | (show cnd _ _ _; first | (refine cnd_not ?_) | (refine cnd_dec (fun _ => ?_) (fun _ => ?_) <;> first | (exfalso; omega) | (conv => whnf))) | (refine LdN.own 0 rfl rfl ?_; conv => whnf)
  all_goals first
    | exact RetN.all ⟨false, 40, rfl, fun x => absurd x (by assumption)⟩
    | exact RetN.all ⟨_, 0, rfl, fun _ x => ⟨dec_true x, rfl⟩⟩
set_option maxRecDepth 20000 in
set_option maxHeartbeats 2000000 in
theorem BranchEnds_law (h : Heap) (tb : Tb h) (pw : Pw h) (t : Tr) (vs : List Value) (w : IsE h vs t) : Fn0 T F.law04_ExprBranchEnds [.agg vs.toArray] h fun v h' => v = .bool true := by
  have c1 := fun h tb w => Branch_ct t h vs tb w
  have c2 := fun h tb w => Smooth_ct t h vs tb w
  have c9 := fun h tb pw => sane_ct h tb pw
  obtain ⟨e1, e2⟩ := br_ends t
  have c3 := fun u (v : ValT u) h vs w => cases_ct u 1 v.1 (Nat.le_trans cntC_le v.2) h vs w
  obtain ⟨⟨X1, X2, X3, X4⟩, hX⟩ : ∃ X, X = brT cloneT t := ⟨_, rfl⟩
  rw [← hX] at c1 e1 e2
  replace c1 : ∀ h, Tb h → IsE h vs t → Fn0 T F.expr_Branch [.agg vs.toArray] h fun v h' => ∃ a b d, v = .tuple #[a, b, d, .int .i64 X4] ∧ VE h' a X1 ∧ VE h' b X2 ∧ VE h' d X3 := c1
  replace e1 : X4 = 42 → ValT t ∧ resT t = none := e1
  replace e2 : X4 = 0 → ValT t ∧ ValT X2 ∧ ValT X3 ∧ cntC X2 < cntC t ∧ cntC X3 < cntC t := e2
  clear hX
  by_cases x0 : X4 = 0
  · obtain ⟨v1, v2, v3, l2, l3⟩ := e2 x0
    have c4 := fun h w => c3 t v1 h vs w
    have c5 := fun h vs w => c3 X2 v2 h vs w
    have c6 := fun h vs w => c3 X3 v3 h vs w
    obtain ⟨C, hC⟩ : ∃ C, C = cntC t := ⟨_, rfl⟩
    obtain ⟨C2, hC2⟩ : ∃ C, C = cntC X2 := ⟨_, rfl⟩
    obtain ⟨C3, hC3⟩ : ∃ C, C = cntC X3 := ⟨_, rfl⟩
    rw [← hC] at c4 l2 l3
    rw [← hC2] at c5 l2
    rw [← hC3] at c6 l3
    clear c2 c3 e1 e2 hC hC2 hC3
    obtain ⟨⟨op, arg, neg, l, m, name, ks⟩, ht⟩ : ∃ x, x = t := ⟨_, rfl⟩
    obtain ⟨a, b, s, hvs, -⟩ := (ht.symm ▸ w : IsE h vs (.mk op arg neg l m name ks)).isK
    subst hvs
    refine fn0_of_codeI ok D.law04_ExprBranchEnds rfl ?_
    conv => whnf
    repeat ((first | refine opsI.step ?_ | refine codeI.step ?_); conv => whnf)
    repeat' first | (show CallN _ _ _ _ _ _; first | (refine CallN.fn rfl (c1 _ (by assumption) (by assumption)) (fun v h' hl2 hr => ?_); obtain ⟨_, _, _, rfl, ⟨op4, ar4, ng4, nn4, dd4, nm4, ss4, rfl, hE4⟩, ⟨op5, ar5, ng5, nn5, dd5, nm5, ss5, rfl, hE5⟩, ⟨op6, ar6, ng6, nn6, dd6, nm6, ss6, rfl, hE6⟩⟩ := hr; conv => whnf) | (refine CallN.fn rfl (c4 _ (by (iterate 30 (try first | assumption | refine IsE.mono ?_ (by assumption))); first | done | assumption)) (fun v h' hl2 hr => ?_); subst hr; conv => whnf) | (refine CallN.fn rfl (c5 _ _ (by (iterate 30 (try first | assumption | refine IsE.mono ?_ (by assumption))); first | done | assumption)) (fun v h' hl2 hr => ?_); subst hr; conv => whnf) | (refine CallN.fn rfl (c6 _ _ (by (iterate 30 (try first | assumption | refine IsE.mono ?_ (by assumption))); first | done | assumption)) (fun v h' hl2 hr => ?_); subst hr; conv => whnf) | (refine CallN.fn rfl (c9 _ (by (iterate 30 (try first | assumption | refine Tb.mono ?_ (by assumption))); first | done | assumption) (by iterate 9 (try first | assumption | refine Pw.mono ?_ (by assumption)))) (fun v h' hl2 hr => ?_); subst hr; conv => whnf)) | ((first | refine opsI.step ?_ | refine codeI.step ?_); conv => whnf) | (intro (_ : Nat); conv => whnf) | (show cnd _ _ _; first | (refine cnd_lt (fun _ => ?_) (fun _ => ?_) <;> first | (exfalso; omega) | (conv => whnf)) | (refine cnd_eq (fun _ => ?_) (fun _ => ?_) <;> first | (exfalso; omega) | (conv => whnf)) | (refine cnd_not ?_)) | (show LdN _ _ _ _ _; first | (refine LdN.own 0 rfl rfl ?_; conv => whnf) | (refine LdN.own 1 rfl rfl ?_; conv => whnf) | (refine LdN.own 3 rfl rfl ?_; conv => whnf)) | (show Sto _ _ _ _; first | (refine Sto.lit 0 rfl rfl rfl ?_; conv => whnf) | (refine Sto.lit 1 rfl rfl rfl ?_; conv => whnf) | (refine Sto.lit 2 rfl rfl rfl ?_; conv => whnf))
    all_goals exact RetN.all (congrArg Value.bool (by unfold lt; exact decide_eq_true (show (C3 : Int) < C by omega)))
  · by_cases x1 : X4 = 42
    · obtain ⟨v1, v2⟩ := e1 x1
      replace c2 : ∀ h, Tb h → IsE h vs t → Fn0 T F.expr_Smooth [.agg vs.toArray] h fun v h' => v = .tuple #[.bool true, .int .i64 0] := fun h tb w => (c2 h tb w).mono fun v h' _ ⟨b, e, x, g⟩ => by
        obtain ⟨rfl, rfl⟩ := g v1 v2
        exact x
      clear c3 e1 e2
      obtain ⟨⟨op, arg, neg, l, m, name, ks⟩, ht⟩ : ∃ x, x = t := ⟨_, rfl⟩
      obtain ⟨a, b, s, hvs, -⟩ := (ht.symm ▸ w : IsE h vs (.mk op arg neg l m name ks)).isK
      subst hvs
      refine fn0_of_codeI ok D.law04_ExprBranchEnds rfl ?_
      conv => whnf
      repeat ((first | refine opsI.step ?_ | refine codeI.step ?_); conv => whnf)
      repeat' first | (show CallN _ _ _ _ _ _; first | (refine CallN.fn rfl (c1 _ (by assumption) (by assumption)) (fun v h' hl2 hr => ?_); obtain ⟨_, _, _, rfl, ⟨op4, ar4, ng4, nn4, dd4, nm4, ss4, rfl, hE4⟩, ⟨op5, ar5, ng5, nn5, dd5, nm5, ss5, rfl, hE5⟩, ⟨op6, ar6, ng6, nn6, dd6, nm6, ss6, rfl, hE6⟩⟩ := hr; conv => whnf) | (refine CallN.fn rfl (c2 _ (by (iterate 30 (try first | assumption | refine Tb.mono ?_ (by assumption))); first | done | assumption) (by (iterate 30 (try first | assumption | refine IsE.mono ?_ (by assumption))); first | done | assumption)) (fun v h' hl2 hr => ?_); subst hr; conv => whnf) | (refine CallN.fn rfl (c9 _ (by (iterate 30 (try first | assumption | refine Tb.mono ?_ (by assumption))); first | done | assumption) (by iterate 9 (try first | assumption | refine Pw.mono ?_ (by assumption)))) (fun v h' hl2 hr => ?_); subst hr; conv => whnf)) | ((first | refine opsI.step ?_ | refine codeI.step ?_); conv => whnf) | (intro (_ : Nat); conv => whnf) | (show cnd _ _ _; first | (refine cnd_eq (fun _ => ?_) (fun _ => ?_) <;> first | (exfalso; omega) | (conv => whnf)) | (refine cnd_not ?_)) | (show LdN _ _ _ _ _; first | (refine LdN.own 0 rfl rfl ?_; conv => whnf) | (refine LdN.own 3 rfl rfl ?_; conv => whnf)) | (show Sto _ _ _ _; first | (refine Sto.lit 0 rfl rfl rfl ?_; conv => whnf) | (refine Sto.lit 1 rfl rfl rfl ?_; conv => whnf) | (refine Sto.lit 2 rfl rfl rfl ?_; conv => whnf))
      all_goals exact RetN.all (congrArg Value.bool (eq_self 0))
    · clear c3 e1 e2
      obtain ⟨⟨op, arg, neg, l, m, name, ks⟩, ht⟩ : ∃ x, x = t := ⟨_, rfl⟩
      obtain ⟨a, b, s, hvs, -⟩ := (ht.symm ▸ w : IsE h vs (.mk op arg neg l m name ks)).isK
      subst hvs
      refine fn0_of_codeI ok D.law04_ExprBranchEnds rfl ?_
      conv => whnf
      repeat ((first | refine opsI.step ?_ | refine codeI.step ?_); conv => whnf)
      repeat' first | (show CallN _ _ _ _ _ _; first | (refine CallN.fn rfl (c1 _ (by assumption) (by assumption)) (fun v h' hl2 hr => ?_); obtain ⟨_, _, _, rfl, ⟨op4, ar4, ng4, nn4, dd4, nm4, ss4, rfl, hE4⟩, ⟨op5, ar5, ng5, nn5, dd5, nm5, ss5, rfl, hE5⟩, ⟨op6, ar6, ng6, nn6, dd6, nm6, ss6, rfl, hE6⟩⟩ := hr; conv => whnf) | (refine CallN.fn rfl (c2 _ (by (iterate 30 (try first | assumption | refine Tb.mono ?_ (by assumption))); first | done | assumption) (by (iterate 30 (try first | assumption | refine IsE.mono ?_ (by assumption))); first | done | assumption)) (fun v h' hl2 hr => ?_); obtain ⟨_, _, rfl, -⟩ := hr; conv => whnf) | (refine CallN.fn rfl (c9 _ (by (iterate 30 (try first | assumption | refine Tb.mono ?_ (by assumption))); first | done | assumption) (by iterate 9 (try first | assumption | refine Pw.mono ?_ (by assumption)))) (fun v h' hl2 hr => ?_); subst hr; conv => whnf)) | ((first | refine opsI.step ?_ | refine codeI.step ?_); conv => whnf) | (intro (_ : Nat); conv => whnf) | (show cnd _ _ _; first | (refine cnd_eq (fun _ => ?_) (fun _ => ?_) <;> first | (exfalso; omega) | (conv => whnf)) | (refine cnd_not ?_)) | (show LdN _ _ _ _ _; first | (refine LdN.own 0 rfl rfl ?_; conv => whnf) | (refine LdN.own 3 rfl rfl ?_; conv => whnf)) | (show Sto _ _ _ _; first | (refine Sto.lit 0 rfl rfl rfl ?_; conv => whnf) | (refine Sto.lit 1 rfl rfl rfl ?_; conv => whnf) | (refine Sto.lit 2 rfl rfl rfl ?_; conv => whnf))
      all_goals exact RetN.all rfl
end Go.Proofs.YtchcjbbnkcodjaaGreatDoor