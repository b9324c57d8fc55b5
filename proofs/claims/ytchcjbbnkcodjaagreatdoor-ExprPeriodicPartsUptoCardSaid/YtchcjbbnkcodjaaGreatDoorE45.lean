/- Periodic: the laws. -/
import Derived.Test.YtchcjbbnkcodjaaGreatDoorE44
set_option linter.unusedVariables false
set_option linter.unusedSimpArgs false
namespace Go.Proofs.YtchcjbbnkcodjaaGreatDoor
open Go Go.Vc Go.Dig
def perX (nm : List Nat) (t : Tr) : Bool × Int := if ValT t then (if IsNm nm then (perP nm t, 0) else (false, 41)) else (false, 40)
theorem perX_ok {nm : List Nat} {t : Tr} (h : ValT t) (hn : IsNm nm) : perX nm t = (perP nm t, 0) := by unfold perX; rw [if_pos h, if_pos hn]
theorem perX_nm {nm : List Nat} {t : Tr} (h : ValT t) (hn : ¬ IsNm nm) : perX nm t = (false, 41) := by unfold perX; rw [if_pos h, if_neg hn]
theorem perX_no {nm : List Nat} {t : Tr} (h : ¬ ValT t) : perX nm t = (false, 40) := if_neg h
set_option maxRecDepth 20000 in
theorem Periodic_ct (t : Tr) (nm : List Nat) (hnm : ∀ y ∈ nm, y < 256) (h : Heap) (vs : List Value) (tb : Tb h) (w : IsE h vs t) : Fn0 T F.expr_Periodic [.agg vs.toArray, .string (txt nm)] h fun v h' => v = .tuple #[.bool (perX nm t).1, .int .i64 (perX nm t).2] := by
  have c1 := fun h tb w => Valid_ct t h vs tb w
  have c2 := fun h => XIsName_ct h nm hnm
  have c3 := fun h tb w (x : ValT t) => periodic_ct nm hnm t 1 x.1 h vs tb w
  have f1 := perX_no (nm := nm) (t := t)
  have f2 := perX_nm (nm := nm) (t := t)
  have f3 := perX_ok (nm := nm) (t := t)
  obtain ⟨X, hX⟩ : ∃ X, X = perX nm t := ⟨_, rfl⟩
  rw [← hX] at f1 f2 f3 ⊢
  obtain ⟨⟨op, arg, neg, l, m, name, ks⟩, ht⟩ : ∃ x, x = t := ⟨_, rfl⟩
  obtain ⟨a, b, s, hvs, -⟩ := (ht.symm ▸ w : IsE h vs (.mk op arg neg l m name ks)).isK
  subst hvs
  refine fn0_of_codeI ok D.expr_Periodic rfl ?_
  conv => whnf
  repeat ((first | refine opsI.step ?_ | refine codeI.step ?_); conv => whnf)
  repeat' first | (show CallN _ _ _ _ _ _; first | (refine CallN.fn rfl (c3 _ (by (iterate 30 (try first | assumption | refine Tb.mono ?_ (by assumption))); first | done | assumption) (by (iterate 30 (try first | assumption | refine IsE.mono ?_ (by assumption))); first | done | assumption) (by assumption)) (fun v h' hl2 hr => ?_); subst hr; conv => whnf) | (refine CallN.fn rfl (c1 _ (by assumption) (by assumption)) (fun v h' hl2 hr => ?_); subst hr; conv => whnf) | (refine CallN.fn rfl (c2 _) (fun v h' hl2 hr => ?_); subst hr; conv => whnf)) | ((first | refine opsI.step ?_ | refine codeI.step ?_); conv => whnf) | (intro (_ : Nat); conv => whnf) | (show cnd _ _ _; first | (refine cnd_not ?_) | (refine cnd_dec (fun _ => ?_) (fun _ => ?_) <;> first | (exfalso; omega) | (conv => whnf))) | (refine LdN.own 0 rfl rfl ?_; conv => whnf)
  all_goals first
    | (rw [f3 (by assumption) (by assumption)]; exact RetN.all rfl)
    | (rw [f1 (by assumption)]; exact RetN.all rfl)
    | (rw [f2 (by assumption) (by assumption)]; exact RetN.all rfl)
set_option maxRecDepth 20000 in
theorem RPeriodic_ct (t : Tr) (nm : List Nat) (hnm : ∀ y ∈ nm, y < 256) (h : Heap) (vs : List Value) (w : IsE h vs t) : Fn0 T F.ref04_Periodic [.agg vs.toArray, .string (txt nm)] h fun v h' => v = .tuple #[.bool (perX nm t).1, .int .i64 (perX nm t).2] := by
  have c1 := fun h w => RValid_ct t h vs w
  have c2 := fun h => RIsName_any h nm hnm
  have c3 := fun h w (x : ValT t) => rperiodic_ct nm hnm t false 1 x.1 h vs w
  have f1 := perX_no (nm := nm) (t := t)
  have f2 := perX_nm (nm := nm) (t := t)
  have f3 := fun (x : ValT t) y => (perX_ok (nm := nm) x y).trans (by rw [per_eq nm x.1])
  obtain ⟨X, hX⟩ : ∃ X, X = perX nm t := ⟨_, rfl⟩
  rw [← hX] at f1 f2 f3 ⊢
  obtain ⟨⟨op, arg, neg, l, m, name, ks⟩, ht⟩ : ∃ x, x = t := ⟨_, rfl⟩
  obtain ⟨a, b, s, hvs, -⟩ := (ht.symm ▸ w : IsE h vs (.mk op arg neg l m name ks)).isK
  subst hvs
  refine fn0_of_codeI ok D.ref04_Periodic rfl ?_
  conv => whnf
  repeat ((first | refine opsI.step ?_ | refine codeI.step ?_); conv => whnf)
  repeat' first | (show CallN _ _ _ _ _ _; first | (refine CallN.fn rfl (c3 _ (by (iterate 30 (try first | assumption | refine IsE.mono ?_ (by assumption))); first | done | assumption) (by assumption)) (fun v h' hl2 hr => ?_); subst hr; conv => whnf) | (refine CallN.fn rfl (c1 _ (by assumption)) (fun v h' hl2 hr => ?_); subst hr; conv => whnf) | (refine CallN.fn rfl (c2 _) (fun v h' hl2 hr => ?_); subst hr; conv => whnf)) | ((first | refine opsI.step ?_ | refine codeI.step ?_); conv => whnf) | (intro (_ : Nat); conv => whnf) | (show cnd _ _ _; first | (refine cnd_not ?_) | (refine cnd_dec (fun _ => ?_) (fun _ => ?_) <;> first | (exfalso; omega) | (conv => whnf))) | (refine LdN.own 0 rfl rfl ?_; conv => whnf)
  all_goals first
    | (rw [f3 (by assumption) (by assumption)]; exact RetN.all rfl)
    | (rw [f1 (by assumption)]; exact RetN.all rfl)
    | (rw [f2 (by assumption) (by assumption)]; exact RetN.all rfl)
set_option maxRecDepth 20000 in
theorem lnode_ct (op : Int) (ho : -9223372036854775808 ≤ op ∧ op ≤ 9223372036854775807) (t u : Tr) (h : Heap) (vs us : List Value) (w : IsE h vs t) (w' : IsE h us u) : Fn0 T F.law04_node [.int .i64 op, .agg vs.toArray, .agg us.toArray] h fun v h' => VE h' v (nodeT op 0 [t, u]) := by
  obtain ⟨⟨op0, arg, neg, l, m, name, ks⟩, ht⟩ : ∃ x, x = t := ⟨_, rfl⟩
  obtain ⟨a, b, s, hvs, -⟩ := (ht.symm ▸ w : IsE h vs (.mk op0 arg neg l m name ks)).isK
  obtain ⟨⟨op1, arg1, neg1, l1, m1, name1, ks1⟩, hu⟩ : ∃ x, x = u := ⟨_, rfl⟩
  obtain ⟨a1, b1, s1, hus, -⟩ := (hu.symm ▸ w' : IsE h us (.mk op1 arg1 neg1 l1 m1 name1 ks1)).isK
  subst hvs hus
  refine fn0_of_codeI ok D.law04_node rfl ?_
  conv => whnf
  repeat ((first | refine opsI.step ?_ | refine codeI.step ?_); conv => whnf)
  repeat' first | ((first | refine opsI.step ?_ | refine codeI.step ?_); conv => whnf) | (intro (_ : Nat); conv => whnf) | (show LdN _ _ _ _ _; first | (refine LdN.own 1 rfl rfl ?_; conv => whnf) | (refine LdN.own 2 rfl rfl ?_; conv => whnf)) | (refine Sto.lit 1 rfl rfl rfl ?_; conv => whnf)
  exact RetN.keep 0 rfl fun hle => RetN.all (VE.node ho (by decide) (IsK.two w w' rfl rfl hle))
attribute [local irreducible] Vc.Fn
set_option maxRecDepth 20000 in
set_option maxHeartbeats 1000000 in
theorem Periodic_law (h : Heap) (tb : Tb h) (pw : Pw h) (t : Tr) (vs : List Value) (w : IsE h vs t) (sa : ByteArray) (hsa : sa.size ≤ maxLen) : Fn0 T F.law04_ExprPeriodic [.agg vs.toArray, .string sa] h fun v h' => v = .bool true := by
  obtain ⟨nm, hla⟩ : ∃ l, l = rl sa := ⟨_, rfl⟩
  have hnm : ∀ y ∈ nm, y < 256 := by rw [hla]; exact rl_lt sa
  obtain rfl : sa = txt nm := by rw [hla, txt_rl]
  clear hla hsa
  have c1 := fun h tb w => Periodic_ct t nm hnm h vs tb w
  have c2 := fun h w => RPeriodic_ct t nm hnm h vs w
  have c5 := fun h tb pw => sane_ct h tb pw
  obtain ⟨⟨X1, X2⟩, hX⟩ : ∃ X, X = perX nm t := ⟨_, rfl⟩
  rw [← hX] at c1 c2
  replace c1 : ∀ h, Tb h → IsE h vs t → Fn0 T F.expr_Periodic [.agg vs.toArray, .string (txt nm)] h fun v h' => v = .tuple #[.bool X1, .int .i64 X2] := c1
  replace c2 : ∀ h, IsE h vs t → Fn0 T F.ref04_Periodic [.agg vs.toArray, .string (txt nm)] h fun v h' => v = .tuple #[.bool X1, .int .i64 X2] := c2
  clear hX
  obtain ⟨⟨op, arg, neg, l, m, name, ks⟩, ht⟩ : ∃ x, x = t := ⟨_, rfl⟩
  obtain ⟨a, b, s, hvs, -⟩ := (ht.symm ▸ w : IsE h vs (.mk op arg neg l m name ks)).isK
  subst hvs
  refine fn0_of_codeI ok D.law04_ExprPeriodic rfl ?_
  conv => whnf
  repeat ((first | refine opsI.step ?_ | refine codeI.step ?_); conv => whnf)
  repeat' first | (show CallN _ _ _ _ _ _; first | (refine CallN.fn rfl (c1 _ (by assumption) (by assumption)) (fun v h' hl2 hr => ?_); subst hr; conv => whnf) | (refine CallN.fn rfl (c2 _ (by (iterate 30 (try first | assumption | refine IsE.mono ?_ (by assumption))); first | done | assumption)) (fun v h' hl2 hr => ?_); subst hr; conv => whnf) | (refine CallN.fn rfl (c5 _ (by (iterate 30 (try first | assumption | refine Tb.mono ?_ (by assumption))); first | done | assumption) (by iterate 9 (try first | assumption | refine Pw.mono ?_ (by assumption)))) (fun v h' hl2 hr => ?_); subst hr; conv => whnf)) | ((first | refine opsI.step ?_ | refine codeI.step ?_); conv => whnf) | (intro (_ : Nat); conv => whnf) | (show cnd _ _ _; first | (refine cnd_eq (fun _ => ?_) (fun _ => ?_) <;> first | (exfalso; omega) | (conv => whnf)) | (refine cnd_beq (fun _ => ?_) (fun hne => ?_) <;> first | exact absurd rfl hne | (conv => whnf))) | (refine LdN.own 0 rfl rfl ?_; conv => whnf)
  all_goals exact RetN.all rfl
set_option maxRecDepth 20000 in
set_option maxHeartbeats 1000000 in
theorem PeriodicParts_law (h : Heap) (tb : Tb h) (pw : Pw h) (t : Tr) (vs : List Value) (w : IsE h vs t) (u : Tr) (us : List Value) (w' : IsE h us u) (sa : ByteArray) (hsa : sa.size ≤ maxLen) : Fn0 T F.law04_ExprPeriodicParts [.agg vs.toArray, .agg us.toArray, .string sa] h fun v h' => v = .bool true := by
  obtain ⟨nm, hla⟩ : ∃ l, l = rl sa := ⟨_, rfl⟩
  have hnm : ∀ y ∈ nm, y < 256 := by rw [hla]; exact rl_lt sa
  obtain rfl : sa = txt nm := by rw [hla, txt_rl]
  clear hla hsa
  have c1 := fun h tb w => Periodic_ct t nm hnm h vs tb w
  have c2 := fun h tb w => Periodic_ct u nm hnm h us tb w
  have c3 := fun h zs tb w => Periodic_ct (nodeT 7 0 [t, u]) nm hnm h zs tb w
  have c4 := fun h w w' => lnode_ct 7 (by decide) t u h vs us w w'
  have c5 := fun h tb pw => sane_ct h tb pw
  have c6 := fun (v : ValT t) h w => Has_ct nm hnm t 1 v.1 h vs w
  have v1 : (perX nm t).2 = 0 → ValT t ∧ IsNm nm := fun x => by
    by_cases v : ValT t
    · by_cases n : IsNm nm
      · exact ⟨v, n⟩
      · rw [perX_nm v n] at x; exact absurd x (by decide)
    · rw [perX_no v] at x; exact absurd x (by decide)
  have v2 : (perX nm u).2 = 0 → ValT u ∧ IsNm nm := fun x => by
    by_cases v : ValT u
    · by_cases n : IsNm nm
      · exact ⟨v, n⟩
      · rw [perX_nm v n] at x; exact absurd x (by decide)
    · rw [perX_no v] at x; exact absurd x (by decide)
  have q1 : (perX nm t).2 = 0 → hasT nm t = false → (perX nm t).1 = true := fun x y => by
    obtain ⟨a, b⟩ := v1 x
    rw [perX_ok a b]; exact perP_not a.1 y
  have q2 : (perX nm t).2 = 0 → (perX nm u).2 = 0 → (perX nm (nodeT 7 0 [t, u])).2 = 0 → (perX nm (nodeT 7 0 [t, u])).1 = ((perX nm t).1 && (perX nm u).1) := fun x y z => by
    obtain ⟨a, b⟩ := v1 x
    obtain ⟨a', -⟩ := v2 y
    by_cases v : ValT (nodeT 7 0 [t, u])
    · rw [perX_ok a b, perX_ok a' b, perX_ok v b]; exact perP_mul nm t u
    · rw [perX_no v] at z; exact absurd z (by decide)
  replace v1 := fun x => (v1 x).1
  clear v2
  obtain ⟨⟨X1, X2⟩, hX⟩ : ∃ X, X = perX nm t := ⟨_, rfl⟩
  obtain ⟨⟨Y1, Y2⟩, hY⟩ : ∃ X, X = perX nm u := ⟨_, rfl⟩
  obtain ⟨⟨Z1, Z2⟩, hZ⟩ : ∃ X, X = perX nm (nodeT 7 0 [t, u]) := ⟨_, rfl⟩
  obtain ⟨H, hH⟩ : ∃ X, X = hasT nm t := ⟨_, rfl⟩
  rw [← hX] at c1 v1 q1 q2
  rw [← hY] at c2 q2
  rw [← hZ] at c3 q2
  rw [← hH] at c6 q1
  replace c1 : ∀ h, Tb h → IsE h vs t → Fn0 T F.expr_Periodic [.agg vs.toArray, .string (txt nm)] h fun v h' => v = .tuple #[.bool X1, .int .i64 X2] := c1
  replace c2 : ∀ h, Tb h → IsE h us u → Fn0 T F.expr_Periodic [.agg us.toArray, .string (txt nm)] h fun v h' => v = .tuple #[.bool Y1, .int .i64 Y2] := c2
  replace c3 : ∀ h zs, Tb h → IsE h zs (nodeT 7 0 [t, u]) → Fn0 T F.expr_Periodic [.agg zs.toArray, .string (txt nm)] h fun v h' => v = .tuple #[.bool Z1, .int .i64 Z2] := c3
  replace v1 : X2 = 0 → ValT t := v1
  replace q1 : X2 = 0 → H = false → X1 = true := q1
  replace q2 : X2 = 0 → Y2 = 0 → Z2 = 0 → Z1 = (X1 && Y1) := q2
  replace q2 := Hq.mk q2
  replace q1 := Hq.mk q1
  clear hX hY hZ hH
  obtain ⟨NT, hNT⟩ : ∃ X, X = nodeT 7 0 [t, u] := ⟨_, rfl⟩
  rw [← hNT] at c3 c4
  obtain ⟨⟨op, arg, neg, l, m, name, ks⟩, ht⟩ : ∃ x, x = t := ⟨_, rfl⟩
  obtain ⟨a, b, s, hvs, -⟩ := (ht.symm ▸ w : IsE h vs (.mk op arg neg l m name ks)).isK
  obtain ⟨⟨op1, arg1, neg1, l1, m1, name1, ks1⟩, hu⟩ : ∃ x, x = u := ⟨_, rfl⟩
  obtain ⟨a1, b1, s1, hus, -⟩ := (hu.symm ▸ w' : IsE h us (.mk op1 arg1 neg1 l1 m1 name1 ks1)).isK
  subst hvs hus
  refine fn0_of_codeI ok D.law04_ExprPeriodicParts rfl ?_
  conv => whnf
  repeat ((first | refine opsI.step ?_ | refine codeI.step ?_); conv => whnf)
  repeat' first | (show CallN _ _ _ _ _ _; first | (refine CallN.fn rfl (c1 _ (by assumption) (by assumption)) (fun v h' hl2 hr => ?_); subst hr; conv => whnf) | (refine CallN.fn rfl (c2 _ (by (iterate 30 (try first | assumption | refine Tb.mono ?_ (by assumption))); first | done | assumption) (by (iterate 30 (try first | assumption | refine IsE.mono ?_ (by assumption))); first | done | assumption)) (fun v h' hl2 hr => ?_); subst hr; conv => whnf) | (refine CallN.fn rfl (c3 _ _ (by (iterate 30 (try first | assumption | refine Tb.mono ?_ (by assumption))); first | done | assumption) (by assumption)) (fun v h' hl2 hr => ?_); subst hr; conv => whnf) | (refine CallN.fn rfl (c4 _ (by (iterate 30 (try first | assumption | refine IsE.mono ?_ (by assumption))); first | done | assumption) (by (iterate 30 (try first | assumption | refine IsE.mono ?_ (by assumption))); first | done | assumption)) (fun v h' hl2 hr => ?_); obtain ⟨op2, ar2, ng2, nn2, dd2, nm2, ss2, rfl, hE2⟩ := hr; conv => whnf) | (refine CallN.fn rfl (c6 (v1 (by omega)) _ (by (iterate 30 (try first | assumption | refine IsE.mono ?_ (by assumption))); first | done | assumption)) (fun v h' hl2 hr => ?_); subst hr; conv => whnf) | (refine CallN.fn rfl (c5 _ (by (iterate 30 (try first | assumption | refine Tb.mono ?_ (by assumption))); first | done | assumption) (by iterate 9 (try first | assumption | refine Pw.mono ?_ (by assumption)))) (fun v h' hl2 hr => ?_); subst hr; conv => whnf)) | ((first | refine opsI.step ?_ | refine codeI.step ?_); conv => whnf) | (intro (_ : Nat); conv => whnf) | (show cnd _ _ _; first | (refine cnd_eq (fun _ => ?_) (fun _ => ?_) <;> first | (exfalso; omega) | (conv => whnf)) | (refine cnd_not ?_) | (refine cnd_bool (fun hb => ?_) (fun hb => ?_) <;> (first | cases hb | subst hb) <;> (conv => whnf))) | (show LdN _ _ _ _ _; first | (refine LdN.own 0 rfl rfl ?_; conv => whnf) | (refine LdN.own 1 rfl rfl ?_; conv => whnf))
  all_goals first
    | exact RetN.all rfl
    | (exfalso; have := q1.out (by omega) rfl; simp at this; done)
    | (refine RetN.all ?_; have e := q2.out (by omega) (by omega) (by omega); simp at e; rw [e]; exact congrArg Value.bool (beq_self _))
end Go.Proofs.YtchcjbbnkcodjaaGreatDoor