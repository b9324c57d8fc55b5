/- Branch on both sides, and its laws. -/
import Derived.Test.YtchcjbbnkcodjaaGreatDoorE49
set_option linter.unusedVariables false
set_option linter.unusedSimpArgs false
namespace Go.Vc
open Go Go.Dig
theorem allW_imp {ws : List Nat} : ∀ {i : Nat} {ρ : Env} {p q : Env → Prop}, (∀ ρ', p ρ' → q ρ') → allW ws i ρ p → allW ws i ρ q
  | i, [], p, q, f, h => f _ h
  | i, x :: ρ, p, q, f, h => by
    cases hc : ws.contains i with
    | true =>
      simp only [allW, hc] at h ⊢
      exact fun y => allW_imp (fun ρ' => f _) (h y)
    | false =>
      simp only [allW, hc] at h ⊢
      exact allW_imp (fun ρ' => f _) h
theorem LoopN.count {body : Post → Env → Heap → Vc.Own → Prop} {ws : List Nat} {Q : Post} {ρ : Env} {h : Heap} {L : Vc.Own} (s n : Nat) (P : Nat → Prop) (h0 : rd ρ s = .int .i64 ((0 : Nat) : Int)) (p0 : P 0)
    (hr : allW ws 0 ρ fun ρ' => ∀ j : Nat, j ≤ n → rd ρ' s = .int .i64 j → P j → body (fun e ρ'' h'' L'' => match e with | .normal => ρ'' = over ws 0 ρ ρ'' ∧ ∃ m, m < n - j ∧ ∃ j' : Nat, m = n - j' ∧ j' ≤ n ∧ rd ρ'' s = .int .i64 j' ∧ P j' ∧ h'' = h ∧ L'' = L | e => Q e ρ'' h'' L'') ρ' h L) : LoopN body ws Q ρ h L := by
  refine LoopN.of (fun r ρ' h' L' => ∃ j' : Nat, r = n - j' ∧ j' ≤ n ∧ rd ρ' s = .int .i64 j' ∧ P j' ∧ h' = h ∧ L' = L) n ⟨0, rfl, Nat.zero_le _, h0, p0, rfl, rfl⟩ ?_
  refine allW_imp (fun ρ' x r h' L' hI => ?_) hr
  obtain ⟨j, rfl, e2, e3, e4, rfl, rfl⟩ := hI
  exact x j e2 e3 e4
end Go.Vc
namespace Go.Proofs.YtchcjbbnkcodjaaGreatDoor
open Go Go.Vc Go.Dig
def brT (cl : Tr → Tr) (t : Tr) : Tr × Tr × Tr × Nat :=
  if ValT t then match resT t with
    | none => (zeroT, zeroT, zeroT, 42)
    | some (c, y, n) => if ValT c ∧ ValT y ∧ ValT n then (cl c, cl y, cl n, 0) else (zeroT, zeroT, zeroT, 4)
  else (zeroT, zeroT, zeroT, 40)
theorem brT_no {cl : Tr → Tr} {t : Tr} (h : ¬ ValT t) : brT cl t = (zeroT, zeroT, zeroT, 40) := if_neg h
theorem brT_none {cl : Tr → Tr} {t : Tr} (h : ValT t) (r : resT t = none) : brT cl t = (zeroT, zeroT, zeroT, 42) := by unfold brT; rw [if_pos h, r]
theorem brT_big {cl : Tr → Tr} {t c y n : Tr} (h : ValT t) (r : resT t = some (c, y, n)) (x : ¬ (ValT c ∧ ValT y ∧ ValT n)) : brT cl t = (zeroT, zeroT, zeroT, 4) := by unfold brT; rw [if_pos h, r]; exact if_neg x
theorem brT_ok {cl : Tr → Tr} {t c y n : Tr} (h : ValT t) (r : resT t = some (c, y, n)) (x : ValT c ∧ ValT y ∧ ValT n) : brT cl t = (cl c, cl y, cl n, 0) := by unfold brT; rw [if_pos h, r]; exact if_pos x
theorem chk_no {t : Tr} (h : (chkdT t).2 ≠ 0) : ¬ ValT t ∧ (chkdT t).2 = 4 := by
  by_cases v : ValT t
  · rw [chkdT, if_pos v] at h; exact absurd rfl h
  · exact ⟨v, by rw [chkdT, if_neg v]⟩
theorem chk_ok {t : Tr} (h : (chkdT t).2 = 0) : ValT t ∧ (chkdT t).1 = cloneT t := by
  by_cases v : ValT t
  · exact ⟨v, by rw [chkdT, if_pos v]⟩
  · rw [chkdT, if_neg v] at h; exact absurd h (by decide)
theorem br_agree (t : Tr) : (∀ e, e = (brT cloneT t).2.2.2 → Agree ((brT cloneT t).1, e) ((brT id t).1, (brT id t).2.2.2) ∧ Agree ((brT cloneT t).2.1, e) ((brT id t).2.1, (brT id t).2.2.2) ∧ Agree ((brT cloneT t).2.2.1, e) ((brT id t).2.2.1, (brT id t).2.2.2)) := by
  rintro e rfl
  have zz : ∀ k : Nat, k ≠ 0 → Agree (zeroT, k) (zeroT, k) := fun k hk => ⟨rfl, fun _ => rfl, fun x => absurd x hk⟩
  by_cases v : ValT t
  · cases r : resT t with
    | none => rw [brT_none v r, brT_none v r]; exact ⟨zz _ (by decide), zz _ (by decide), zz _ (by decide)⟩
    | some p =>
      obtain ⟨c, y, n⟩ := p
      by_cases x : ValT c ∧ ValT y ∧ ValT n
      · rw [brT_ok v r x, brT_ok v r x]
        have g : ∀ u, ValT u → Agree (cloneT u, 0) (id u, 0) := fun u hu => ⟨rfl, fun z => absurd rfl z, fun _ => ⟨okT_clone hu.1, hu.1, same_clone hu⟩⟩
        exact ⟨g _ x.1, g _ x.2.1, g _ x.2.2⟩
      · rw [brT_big v r x, brT_big v r x]; exact ⟨zz _ (by decide), zz _ (by decide), zz _ (by decide)⟩
  · rw [brT_no v, brT_no v]; exact ⟨zz _ (by decide), zz _ (by decide), zz _ (by decide)⟩
mutual
theorem cntC_le : ∀ {t : Tr}, cntC t ≤ szT t
  | .mk op arg neg l m name ks => by
    have := cntCs_le (ts := ks)
    rw [cntC, szT]
    split <;> omega
theorem cntCs_le : ∀ {ts : List Tr}, cntCs ts ≤ szTs ts
  | [] => by rw [cntCs]; exact Nat.zero_le _
  | t :: ts => by
    have h1 := cntC_le (t := t)
    have h2 := cntCs_le (ts := ts)
    rw [cntCs, szTs]; omega
end
theorem br_ends (t : Tr) : ((brT cloneT t).2.2.2 = 42 → ValT t ∧ resT t = none) ∧ ((brT cloneT t).2.2.2 = 0 → ValT t ∧ ValT (brT cloneT t).2.1 ∧ ValT (brT cloneT t).2.2.1 ∧ cntC (brT cloneT t).2.1 < cntC t ∧ cntC (brT cloneT t).2.2.1 < cntC t) := by
  by_cases v : ValT t
  · cases r : resT t with
    | none => rw [brT_none v r]; exact ⟨fun _ => ⟨v, rfl⟩, fun x => absurd x (by decide)⟩
    | some p =>
      obtain ⟨c, y, n⟩ := p
      by_cases x : ValT c ∧ ValT y ∧ ValT n
      · rw [brT_ok v r x]
        have h := resT_less r
        refine ⟨fun z => absurd (show (0 : Nat) = 42 from z) (by decide), fun _ => ⟨v, val_clone x.2.1, val_clone x.2.2, ?_, ?_⟩⟩
        · show cntC (cloneT y) < cntC t
          rw [cntC_clone]; exact h.1
        · show cntC (cloneT n) < cntC t
          rw [cntC_clone]; exact h.2
      · rw [brT_big v r x]; exact ⟨fun z => absurd z (by decide), fun z => absurd z (by decide)⟩
  · rw [brT_no v]; exact ⟨fun z => absurd z (by decide), fun z => absurd z (by decide)⟩
def Res4 (h : Heap) (v : Value) (x : Tr × Tr × Tr × Nat) : Prop := ∃ a b d, v = .tuple #[a, b, d, .int .i64 x.2.2.2] ∧ VE h a x.1 ∧ VE h b x.2.1 ∧ VE h d x.2.2.1
theorem Res4.zero (h : Heap) (e : Nat) : Res4 h (.tuple #[.agg #[.int .i64 0, .int .i64 0, .bool false, .slice none 0 0, .slice none 0 0, .string (txt []), .slice none 0 0], .agg #[.int .i64 0, .int .i64 0, .bool false, .slice none 0 0, .slice none 0 0, .string (txt []), .slice none 0 0], .agg #[.int .i64 0, .int .i64 0, .bool false, .slice none 0 0, .slice none 0 0, .string (txt []), .slice none 0 0], .int .i64 e]) (zeroT, zeroT, zeroT, e) :=
  ⟨_, _, _, rfl, VE.zero _, VE.zero _, VE.zero _⟩
theorem resolvedC_ct (t : Tr) (hok : okT 1 t) (hn : resT t ≠ none) (h : Heap) (vs : List Value) (w : IsE h vs t) : Fn0 T F.expr_resolved [.agg vs.toArray] h fun v h' => ∃ c y n b C Y N, v = .tuple #[c, y, n, .bool b] ∧ VE h' c C ∧ VE h' y Y ∧ VE h' n N ∧ resT t = some (C, Y, N) :=
  (resolved_ct t 1 hok h vs w).mono fun v h' _ ⟨c, y, n, b, C, Y, N, e, x1, x2, x3, g1, g2⟩ => ⟨c, y, n, b, C, Y, N, e, x1, x2, x3, by cases b; exact absurd (g2 rfl).1 hn; exact g1 rfl⟩
def BrR (t : Tr) (R : Tr × Tr × Tr × Nat) (c y n : Tr × Nat) : Prop := (c.2 ≠ 0 → R = (zeroT, zeroT, zeroT, c.2)) ∧ (y.2 ≠ 0 → R = (zeroT, zeroT, zeroT, y.2)) ∧ (n.2 ≠ 0 → R = (zeroT, zeroT, zeroT, n.2)) ∧ (c.2 = 0 → y.2 = 0 → n.2 = 0 → R = (c.1, y.1, n.1, 0))
theorem BrR.of {t c y n : Tr} (v : ValT t) (r : resT t = some (c, y, n)) : BrR t (brT cloneT t) (chkdT c) (chkdT y) (chkdT n) := by
  refine ⟨fun x => ?_, fun x => ?_, fun x => ?_, fun x1 x2 x3 => ?_⟩
  · obtain ⟨h1, h2⟩ := chk_no x
    rw [brT_big v r fun z => h1 z.1, h2]
  · obtain ⟨h1, h2⟩ := chk_no x
    rw [brT_big v r fun z => h1 z.2.1, h2]
  · obtain ⟨h1, h2⟩ := chk_no x
    rw [brT_big v r fun z => h1 z.2.2, h2]
  · obtain ⟨a1, b1⟩ := chk_ok x1
    obtain ⟨a2, b2⟩ := chk_ok x2
    obtain ⟨a3, b3⟩ := chk_ok x3
    rw [brT_ok v r ⟨a1, a2, a3⟩, b1, b2, b3]
set_option maxRecDepth 20000 in
set_option maxHeartbeats 2000000 in
theorem Branch_ct (t : Tr) (h : Heap) (vs : List Value) (tb : Tb h) (w : IsE h vs t) : Fn0 T F.expr_Branch [.agg vs.toArray] h fun v h' => Res4 h' v (brT cloneT t) := by
  have c1 := fun h tb w => Valid_ct t h vs tb w
  have c2 := fun h w (x : ValT t) => smooth_ct t h vs w x.1
  have c3 := fun h w (x : ValT t) hn => resolvedC_ct t x.1 hn h vs w
  have c5 := fun u h vs tb w => checked_ct u h vs tb w
  have r1 : ¬ ValT t → brT cloneT t = (zeroT, zeroT, zeroT, 40) := fun x => brT_no x
  have r2 : ValT t → resT t = none → brT cloneT t = (zeroT, zeroT, zeroT, 42) := fun x y => brT_none x y
  have r3 : ∀ c y n, ValT t → resT t = some (c, y, n) → BrR t (brT cloneT t) (chkdT c) (chkdT y) (chkdT n) := fun c y n x r => BrR.of x r
  obtain ⟨R, hR⟩ : ∃ R, R = brT cloneT t := ⟨_, rfl⟩
  obtain ⟨RS, hRS⟩ : ∃ R, R = resT t := ⟨_, rfl⟩
  rw [← hR] at r1 r2
  rw [← hRS] at c2 c3 r2
  simp only [← hR, ← hRS] at r3
  rw [← hR]
  clear hR hRS
  obtain ⟨⟨op, arg, neg, l, m, name, ks⟩, ht⟩ : ∃ x, x = t := ⟨_, rfl⟩
  obtain ⟨a, b, s, hvs, -⟩ := (ht.symm ▸ w : IsE h vs (.mk op arg neg l m name ks)).isK
  subst hvs
  refine fn0_of_codeI ok D.expr_Branch rfl ?_
  conv => whnf
  repeat ((first | refine opsI.step ?_ | refine codeI.step ?_); conv => whnf)
  repeat' first | (show DrawN _ _ _ _ _ _; first | (refine DrawN.own [_, _, _] (by exact List.Sublist.cons_cons _ (List.Sublist.cons_cons _ (List.Sublist.cons_cons _ (List.nil_sublist _)))) (by decide +kernel) ?_; conv => whnf)) | (refine ⟨fun _ => ⟨HasLe.of_le (by first | exact Heap.le_refl _ | assumption | exact Heap.le_trans (by assumption) (by assumption)), by repeat first | exact List.nil_sublist _ | apply List.Sublist.cons_cons | refine List.Sublist.trans ?_ (List.sublist_append_right _ _) | apply List.Sublist.cons⟩, ?_⟩; conv => whnf) | ((first | refine opsI.step ?_ | refine codeI.step ?_); conv => whnf) | (intro (_ : Nat); conv => whnf) | (show SeqN _ _ _ _ _ _ _; first | (refine SeqN.go ?_; conv => whnf)) | (show LdN _ _ _ _ _; first | (refine LdN.own 0 rfl rfl ?_; conv => whnf) | (refine LdN.own 1 rfl rfl ?_; conv => whnf) | (refine LdN.own 2 rfl rfl ?_; conv => whnf) | (refine LdN.own 3 rfl rfl ?_; conv => whnf)) | (show CallN _ _ _ _ _ _; first | (refine CallN.fn rfl (c1 _ (by assumption) (by assumption)) (fun v h' hl2 hr => ?_); subst hr; conv => whnf) | (refine CallN.fn rfl (c2 _ (by (iterate 30 (try first | assumption | refine IsE.mono ?_ (by assumption))); first | done | assumption) (by assumption)) (fun v h' hl2 hr => ?_); obtain ⟨rfl, rfl⟩ := hr; clear hl2; conv => whnf) | (refine CallN.fn rfl (c3 _ (by (iterate 30 (try first | assumption | refine IsE.mono ?_ (by assumption))); first | done | assumption) (by assumption) (by assumption)) (fun v h' hl2 hr => ?_); obtain ⟨_, _, _, bb, CC, YY, NN, rfl, ⟨op4, ar4, ng4, nn4, dd4, nm4, ss4, rfl, hE4⟩, ⟨op5, ar5, ng5, nn5, dd5, nm5, ss5, rfl, hE5⟩, ⟨op6, ar6, ng6, nn6, dd6, nm6, ss6, rfl, hE6⟩, hbb⟩ := hr; have br := r3 CC YY NN (by assumption) hbb; have c5c := fun h vs tb w => c5 CC h vs tb w; obtain ⟨⟨Qc, qc⟩, hQc⟩ : ∃ Q, Q = chkdT CC := ⟨_, rfl⟩; rw [← hQc] at c5c br; replace c5c : ∀ h vs, Tb h → IsE h vs CC → Fn0 T F.expr_checked [.agg vs.toArray] h fun v h' => ∃ a, v = .tuple #[a, .int .i64 qc] ∧ VE h' a Qc := c5c; clear hQc; have c5y := fun h vs tb w => c5 YY h vs tb w; obtain ⟨⟨Qy, qy⟩, hQy⟩ : ∃ Q, Q = chkdT YY := ⟨_, rfl⟩; rw [← hQy] at c5y br; replace c5y : ∀ h vs, Tb h → IsE h vs YY → Fn0 T F.expr_checked [.agg vs.toArray] h fun v h' => ∃ a, v = .tuple #[a, .int .i64 qy] ∧ VE h' a Qy := c5y; clear hQy; have c5n := fun h vs tb w => c5 NN h vs tb w; obtain ⟨⟨Qn, qn⟩, hQn⟩ : ∃ Q, Q = chkdT NN := ⟨_, rfl⟩; rw [← hQn] at c5n br; replace c5n : ∀ h vs, Tb h → IsE h vs NN → Fn0 T F.expr_checked [.agg vs.toArray] h fun v h' => ∃ a, v = .tuple #[a, .int .i64 qn] ∧ VE h' a Qn := c5n; clear hQn; conv => whnf) | (refine CallN.fn rfl (c5c _ _ (by (iterate 30 (try first | assumption | refine Tb.mono ?_ (by assumption))); first | done | assumption) (by (iterate 30 (try first | assumption | refine IsE.mono ?_ (by assumption))); first | done | assumption)) (fun v h' hl2 hr => ?_); obtain ⟨_, rfl, op7, ar7, ng7, nn7, dd7, nm7, ss7, rfl, hE7⟩ := hr; conv => whnf) | (refine CallN.fn rfl (c5y _ _ (by (iterate 30 (try first | assumption | refine Tb.mono ?_ (by assumption))); first | done | assumption) (by (iterate 30 (try first | assumption | refine IsE.mono ?_ (by assumption))); first | done | assumption)) (fun v h' hl2 hr => ?_); obtain ⟨_, rfl, op8, ar8, ng8, nn8, dd8, nm8, ss8, rfl, hE8⟩ := hr; conv => whnf) | (refine CallN.fn rfl (c5n _ _ (by (iterate 30 (try first | assumption | refine Tb.mono ?_ (by assumption))); first | done | assumption) (by (iterate 30 (try first | assumption | refine IsE.mono ?_ (by assumption))); first | done | assumption)) (fun v h' hl2 hr => ?_); obtain ⟨_, rfl, op9, ar9, ng9, nn9, dd9, nm9, ss9, rfl, hE9⟩ := hr; conv => whnf)) | (show Idx _ _ _ _ _; first | (refine Idx.of 0 rfl rfl (by decide) ?_; conv => whnf) | (refine Idx.of 1 rfl rfl (by decide) ?_; conv => whnf) | (refine Idx.of 2 rfl rfl (by decide) ?_; conv => whnf)) | (show cnd _ _ _; first | (refine cnd_eq (fun _ => ?_) (fun _ => ?_) <;> first | (exfalso; omega) | (conv => whnf)) | (refine cnd_not ?_) | (refine cnd_dec (fun _ => ?_) (fun _ => ?_) <;> first | (exfalso; omega) | (conv => whnf))) | (show Sto _ _ _ _; first | (refine Sto.lit 0 rfl rfl rfl ?_; conv => whnf) | (refine Sto.lit 1 rfl rfl rfl ?_; conv => whnf) | (refine Sto.lit 2 rfl rfl rfl ?_; conv => whnf) | (refine Sto.lit 3 rfl rfl rfl ?_; conv => whnf))
  all_goals try first
    | (rw [r1 (by assumption)]; exact RetN.all (Res4.zero _ 40))
    | (rw [r2 (by assumption) (by assumption)]; exact RetN.all (Res4.zero _ 42))
  refine LoopN.count 52 3 (fun j => (0 < j → qc = 0) ∧ (1 < j → qy = 0) ∧ (2 < j → qn = 0)) rfl ⟨fun x => absurd x (by decide), fun x => absurd x (by decide), fun x => absurd x (by decide)⟩ ?_
  conv => whnf
  repeat intro _
  rename_i j hj e52 hp
  conv at e52 => lhs; whnf
  subst e52
  obtain ⟨p1, p2, p3⟩ := hp
  obtain ⟨b1, b2, b3, b4⟩ := br
  replace b1 : qc ≠ 0 → R = (zeroT, zeroT, zeroT, qc) := b1
  replace b2 : qy ≠ 0 → R = (zeroT, zeroT, zeroT, qy) := b2
  replace b3 : qn ≠ 0 → R = (zeroT, zeroT, zeroT, qn) := b3
  replace b4 : qc = 0 → qy = 0 → qn = 0 → R = (Qc, Qy, Qn, 0) := b4
  obtain rfl | rfl | rfl | rfl : j = 0 ∨ j = 1 ∨ j = 2 ∨ j = 3 := by omega
  · conv => whnf
    repeat ((first | refine opsI.step ?_ | refine codeI.step ?_); conv => whnf)
    repeat' first | (show DrawN _ _ _ _ _ _; first | (refine DrawN.own [_, _, _] (by exact List.Sublist.cons _ (List.Sublist.cons _ (List.Sublist.cons _ (List.Sublist.cons _ (List.Sublist.cons_cons _ (List.Sublist.cons_cons _ (List.Sublist.cons_cons _ (List.nil_sublist _)))))))) (by decide +kernel) ?_; conv => whnf)) | (refine ⟨fun _ => ⟨HasLe.of_le (by first | exact Heap.le_refl _ | assumption | exact Heap.le_trans (by assumption) (by assumption)), by repeat first | exact List.nil_sublist _ | apply List.Sublist.cons_cons | refine List.Sublist.trans ?_ (List.sublist_append_right _ _) | apply List.Sublist.cons⟩, ?_⟩; conv => whnf) | ((first | refine opsI.step ?_ | refine codeI.step ?_); conv => whnf) | (show LdN _ _ _ _ _; first | (refine LdN.own 0 rfl rfl ?_; conv => whnf) | (refine LdN.own 1 rfl rfl ?_; conv => whnf) | (refine LdN.own 2 rfl rfl ?_; conv => whnf) | (refine LdN.own 4 rfl rfl ?_; conv => whnf) | (refine LdN.own 5 rfl rfl ?_; conv => whnf) | (refine LdN.own 6 rfl rfl ?_; conv => whnf)) | (show IdxA _ _ _ _ _ _ _; first | (refine IdxA.at 0 rfl (by decide) ?_; conv => whnf)) | (refine WrapN.i64 (by omega) (by omega) ?_; conv => whnf) | (show cnd _ _ _; first | (refine cnd_lt (fun _ => ?_) (fun _ => ?_) <;> first | (exfalso; omega) | (conv => whnf)) | (refine cnd_eq (fun _ => ?_) (fun _ => ?_) <;> first | (exfalso; omega) | (conv => whnf)) | (refine cnd_not ?_)) | (show Sto _ _ _ _; first | (refine Sto.lit 4 rfl rfl rfl ?_; conv => whnf) | (refine Sto.lit 5 rfl rfl rfl ?_; conv => whnf) | (refine Sto.lit 6 rfl rfl rfl ?_; conv => whnf))
    · exact ⟨rfl, 2, by omega, 1, rfl, by omega, rfl, ⟨fun _ => by omega, fun x => absurd x (by decide), fun x => absurd x (by decide)⟩, rfl, rfl⟩
    · rw [b1 (by omega)]; exact RetN.all (Res4.zero _ _)
  · conv => whnf
    repeat ((first | refine opsI.step ?_ | refine codeI.step ?_); conv => whnf)
    repeat' first | (show DrawN _ _ _ _ _ _; first | (refine DrawN.own [_, _, _] (by exact List.Sublist.cons _ (List.Sublist.cons _ (List.Sublist.cons _ (List.Sublist.cons _ (List.Sublist.cons_cons _ (List.Sublist.cons_cons _ (List.Sublist.cons_cons _ (List.nil_sublist _)))))))) (by decide +kernel) ?_; conv => whnf)) | (refine ⟨fun _ => ⟨HasLe.of_le (by first | exact Heap.le_refl _ | assumption | exact Heap.le_trans (by assumption) (by assumption)), by repeat first | exact List.nil_sublist _ | apply List.Sublist.cons_cons | refine List.Sublist.trans ?_ (List.sublist_append_right _ _) | apply List.Sublist.cons⟩, ?_⟩; conv => whnf) | ((first | refine opsI.step ?_ | refine codeI.step ?_); conv => whnf) | (show LdN _ _ _ _ _; first | (refine LdN.own 0 rfl rfl ?_; conv => whnf) | (refine LdN.own 1 rfl rfl ?_; conv => whnf) | (refine LdN.own 2 rfl rfl ?_; conv => whnf) | (refine LdN.own 4 rfl rfl ?_; conv => whnf) | (refine LdN.own 5 rfl rfl ?_; conv => whnf) | (refine LdN.own 6 rfl rfl ?_; conv => whnf)) | (show IdxA _ _ _ _ _ _ _; first | (refine IdxA.at 1 rfl (by decide) ?_; conv => whnf)) | (refine WrapN.i64 (by omega) (by omega) ?_; conv => whnf) | (show cnd _ _ _; first | (refine cnd_lt (fun _ => ?_) (fun _ => ?_) <;> first | (exfalso; omega) | (conv => whnf)) | (refine cnd_eq (fun _ => ?_) (fun _ => ?_) <;> first | (exfalso; omega) | (conv => whnf)) | (refine cnd_not ?_)) | (show Sto _ _ _ _; first | (refine Sto.lit 4 rfl rfl rfl ?_; conv => whnf) | (refine Sto.lit 5 rfl rfl rfl ?_; conv => whnf) | (refine Sto.lit 6 rfl rfl rfl ?_; conv => whnf))
    · exact ⟨rfl, 1, by omega, 2, rfl, by omega, rfl, ⟨fun _ => p1 (by decide), fun _ => by omega, fun x => absurd x (by decide)⟩, rfl, rfl⟩
    · rw [b2 (by omega)]; exact RetN.all (Res4.zero _ _)
  · conv => whnf
    repeat ((first | refine opsI.step ?_ | refine codeI.step ?_); conv => whnf)
    repeat' first | (show DrawN _ _ _ _ _ _; first | (refine DrawN.own [_, _, _] (by exact List.Sublist.cons _ (List.Sublist.cons _ (List.Sublist.cons _ (List.Sublist.cons _ (List.Sublist.cons_cons _ (List.Sublist.cons_cons _ (List.Sublist.cons_cons _ (List.nil_sublist _)))))))) (by decide +kernel) ?_; conv => whnf)) | (refine ⟨fun _ => ⟨HasLe.of_le (by first | exact Heap.le_refl _ | assumption | exact Heap.le_trans (by assumption) (by assumption)), by repeat first | exact List.nil_sublist _ | apply List.Sublist.cons_cons | refine List.Sublist.trans ?_ (List.sublist_append_right _ _) | apply List.Sublist.cons⟩, ?_⟩; conv => whnf) | ((first | refine opsI.step ?_ | refine codeI.step ?_); conv => whnf) | (show LdN _ _ _ _ _; first | (refine LdN.own 0 rfl rfl ?_; conv => whnf) | (refine LdN.own 1 rfl rfl ?_; conv => whnf) | (refine LdN.own 2 rfl rfl ?_; conv => whnf) | (refine LdN.own 4 rfl rfl ?_; conv => whnf) | (refine LdN.own 5 rfl rfl ?_; conv => whnf) | (refine LdN.own 6 rfl rfl ?_; conv => whnf)) | (show IdxA _ _ _ _ _ _ _; first | (refine IdxA.at 2 rfl (by decide) ?_; conv => whnf)) | (refine WrapN.i64 (by omega) (by omega) ?_; conv => whnf) | (show cnd _ _ _; first | (refine cnd_lt (fun _ => ?_) (fun _ => ?_) <;> first | (exfalso; omega) | (conv => whnf)) | (refine cnd_eq (fun _ => ?_) (fun _ => ?_) <;> first | (exfalso; omega) | (conv => whnf)) | (refine cnd_not ?_)) | (show Sto _ _ _ _; first | (refine Sto.lit 4 rfl rfl rfl ?_; conv => whnf) | (refine Sto.lit 5 rfl rfl rfl ?_; conv => whnf) | (refine Sto.lit 6 rfl rfl rfl ?_; conv => whnf))
    · exact ⟨rfl, 0, by omega, 3, rfl, by omega, rfl, ⟨fun _ => p1 (by decide), fun _ => p2 (by decide), fun _ => by omega⟩, rfl, rfl⟩
    · rw [b3 (by omega)]; exact RetN.all (Res4.zero _ _)
  · conv => whnf
    repeat ((first | refine opsI.step ?_ | refine codeI.step ?_); conv => whnf)
    repeat' first | (show DrawN _ _ _ _ _ _; first | (refine DrawN.own [_, _, _] (by exact List.Sublist.cons _ (List.Sublist.cons_cons _ (List.Sublist.cons_cons _ (List.Sublist.cons_cons _ (List.nil_sublist _))))) (by decide +kernel) ?_; conv => whnf)) | (refine ⟨fun _ => ⟨HasLe.of_le (by first | exact Heap.le_refl _ | assumption | exact Heap.le_trans (by assumption) (by assumption)), by repeat first | exact List.nil_sublist _ | apply List.Sublist.cons_cons | refine List.Sublist.trans ?_ (List.sublist_append_right _ _) | apply List.Sublist.cons⟩, ?_⟩; conv => whnf) | ((first | refine opsI.step ?_ | refine codeI.step ?_); conv => whnf) | (show LdN _ _ _ _ _; first | (refine LdN.own 0 rfl rfl ?_; conv => whnf) | (refine LdN.own 1 rfl rfl ?_; conv => whnf) | (refine LdN.own 2 rfl rfl ?_; conv => whnf) | (refine LdN.own 4 rfl rfl ?_; conv => whnf) | (refine LdN.own 5 rfl rfl ?_; conv => whnf) | (refine LdN.own 6 rfl rfl ?_; conv => whnf)) | (refine cnd_lt (fun _ => ?_) (fun _ => ?_) <;> first | (exfalso; omega) | (conv => whnf)) | (show Sto _ _ _ _; first | (refine Sto.lit 4 rfl rfl rfl ?_; conv => whnf) | (refine Sto.lit 5 rfl rfl rfl ?_; conv => whnf) | (refine Sto.lit 6 rfl rfl rfl ?_; conv => whnf))
    rw [b4 (p1 (by decide)) (p2 (by decide)) (p3 (by decide))]
    exact RetN.all ⟨_, _, _, rfl, ⟨op7, ar7, ng7, nn7, dd7, nm7, ss7, rfl, (by (iterate 30 (try first | assumption | refine IsE.mono ?_ (by assumption))); first | done | assumption)⟩, ⟨op8, ar8, ng8, nn8, dd8, nm8, ss8, rfl, (by (iterate 30 (try first | assumption | refine IsE.mono ?_ (by assumption))); first | done | assumption)⟩, ⟨op9, ar9, ng9, nn9, dd9, nm9, ss9, rfl, (by assumption)⟩⟩
end Go.Proofs.YtchcjbbnkcodjaaGreatDoor