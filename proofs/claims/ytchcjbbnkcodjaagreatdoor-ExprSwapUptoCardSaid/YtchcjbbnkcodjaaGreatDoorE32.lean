/- Equal trees: plain; the reference's Same, the program's equal. -/
import Derived.Test.YtchcjbbnkcodjaaGreatDoorE31
import Derived.Test.YtchcjbbnkcodjaaGreatDoorL4
set_option linter.unusedVariables false
set_option linter.unusedSimpArgs false
namespace Go.Proofs.YtchcjbbnkcodjaaGreatDoor
open Go Go.Vc Go.Dig
mutual
def sameB : Tr → Tr → Bool
  | .mk op arg neg l m name ks, .mk op' arg' neg' l' m' name' ks' => decide (op = op' ∧ arg = arg' ∧ name = name' ∧ ratOf neg l m = ratOf neg' l' m') && sameBs ks ks'
def sameBs : List Tr → List Tr → Bool
  | [], [] => true
  | [], _ :: _ => false
  | _ :: _, [] => false
  | t :: ts, u :: us => sameB t u && sameBs ts us
end
theorem sameBs_len : ∀ {a b : List Tr}, sameBs a b = true → a.length = b.length
  | [], [], _ => rfl
  | [], _ :: _, h => by rw [sameBs] at h; cases h
  | _ :: _, [], h => by rw [sameBs] at h; cases h
  | t :: ts, u :: us, h => by
    rw [sameBs, Bool.and_eq_true] at h
    rw [List.length_cons, List.length_cons, sameBs_len h.2]
theorem sameBs_not : ∀ {a b : List Tr} {j : Nat} {t u : Tr}, a[j]? = some t → b[j]? = some u → sameB t u = false → sameBs a b = false
  | [], _, _, _, _, h, _, _ => by simp at h
  | _ :: _, [], _, _, _, _, h, _ => by simp at h
  | x :: xs, y :: ys, 0, t, u, h1, h2, h => by
    simp at h1 h2
    subst h1 h2
    rw [sameBs, h, Bool.false_and]
  | x :: xs, y :: ys, j + 1, t, u, h1, h2, h => by
    rw [sameBs, sameBs_not (a := xs) (b := ys) (j := j) (by simpa using h1) (by simpa using h2) h, Bool.and_false]
theorem sameBs_all : ∀ {a b : List Tr}, a.length = b.length → (∀ (j : Nat) t u, a[j]? = some t → b[j]? = some u → sameB t u = true) → sameBs a b = true
  | [], [], _, _ => by rw [sameBs]
  | [], _ :: _, h, _ => by simp at h
  | _ :: _, [], h, _ => by simp at h
  | t :: ts, u :: us, h, g => by
    rw [sameBs, g 0 t u rfl rfl, Bool.true_and]
    exact sameBs_all (by simpa using h) fun j t u h1 h2 => g (j + 1) t u (by simpa using h1) (by simpa using h2)
theorem ratOf_nil {neg : Bool} {l m : List Nat} (h : evl 4294967296 l = 0) : ratOf neg l m = 0 := by
  unfold ratOf
  rw [h, mkQ_zero]
theorem node_sz {op arg : Int} {neg : Bool} {l m name : List Nat} {n : Nat} (h : nodeB op arg neg l m name n) : Sz 64 (ratOf neg l m) := by
  have h4 := h.2.2.2.2
  by_cases ho : op = 1
  · rw [if_pos ho] at h4; exact okR.sz h4.1
  · rw [if_neg ho] at h4
    rw [ratOf_nil h4]; exact sz_zero 63
theorem okTs_get {d : Nat} : ∀ {ts : List Tr} {j : Nat} {t : Tr}, okTs d ts → ts[j]? = some t → okT d t
  | u :: ts, 0, t, h, e => by
    rw [okTs] at h
    simp at e; subst e; exact h.1
  | u :: ts, j + 1, t, h, e => by
    rw [okTs] at h
    exact okTs_get h.2 (by simpa using e)
  | [], j, t, _, e => by simp at e
set_option maxRecDepth 20000 in
theorem RSame_ct (h : Heap) (n1 : Bool) (a1 b1 : Sl) (l1 m1 : List Nat) (n2 : Bool) (a2 b2 : Sl) (l2 m2 : List Nat) (hv1 : IsVal h a1 b1 l1 m1) (hv2 : IsVal h a2 b2 l2 m2) (z1 : Sz 64 (ratOf n1 l1 m1)) (z2 : Sz 64 (ratOf n2 l2 m2)) :
    Fn0 T F.ref01_Same [.agg #[.bool n1, a1.val, b1.val], .agg #[.bool n2, a2.val, b2.val]] h fun v h' => v = .bool (dec (ratOf n1 l1 m1 = ratOf n2 l2 m2)) := by
  have c1 := fun h hv1 => QOf_ct h n1 a1 b1 l1 m1 hv1
  have c2 := fun h hv2 => QOf_ct h n2 a2 b2 l2 m2 hv2
  obtain ⟨q, hq⟩ : ∃ q, q = ratOf n1 l1 m1 := ⟨_, rfl⟩
  obtain ⟨r, hr⟩ : ∃ r, r = ratOf n2 l2 m2 := ⟨_, rfl⟩
  rw [← hq] at c1 z1 ⊢
  rw [← hr] at c2 z2 ⊢
  have y1 : Sr 65536 q := (Sr.of z1).mono (by decide)
  have y2 : Sr 65536 r := (Sr.of z2).mono (by decide)
  have e := cmpQ_eq (q := q) (r := r)
  refine fn0_of_codeI ok D.ref01_Same rfl ?_
  conv => whnf
  repeat ((first | refine opsI.step ?_ | refine codeI.step ?_); conv => whnf)
  repeat' first | (show DrawN _ _ _ _ _ _; first | (refine DrawN.each (by decide +kernel) ?_; conv => whnf)) | (show CallN _ _ _ _ _ _; first | (refine CallN.fn rfl (c1 _ (by assumption)) (fun v h' hl hr => ?_); obtain ⟨x1, x2, rfl, g1⟩ := hr; conv => whnf) | (refine CallN.fn rfl (c2 _ (by (iterate 30 (try first | assumption | refine IsVal.mono ?_ (by assumption))); first | done | assumption)) (fun v h' hl hr => ?_); obtain ⟨x3, x4, rfl, g2⟩ := hr; conv => whnf) | (refine CallN.fn rfl (RCmp_ct _ _ _ _ _ q r (by (iterate 30 (try first | assumption | refine IsQ.mono ?_ (by assumption))); first | done | assumption) (by assumption) y1 y2) (fun v h' hl hr => ?_); subst hr; conv => whnf)) | ((first | refine opsI.step ?_ | refine codeI.step ?_); conv => whnf) | (refine ⟨fun _ => HasLe.of_le (Heap.le_refl _), ?_⟩; conv => whnf) | (refine ⟨fun _ => HasLe.of_le (by assumption), ?_⟩; conv => whnf) | (intro (_ : Nat); conv => whnf) | (show LdN _ _ _ _ _; first | (refine LdN.own 0 rfl rfl ?_; conv => whnf) | (refine LdN.own 1 rfl rfl ?_; conv => whnf)) | (refine Both.mk ?_ ?_ <;> (conv => whnf))
  all_goals exact RetN.all (by congr 1; unfold eq; rw [dec_eq]; exact decide_eq_decide.2 e)
set_option maxRecDepth 20000 in
set_option maxHeartbeats 2000000 in
theorem Same_ct : ∀ t : Tr, ∀ (u : Tr) (h : Heap) (vs us : List Value) (d d' : Nat), IsE h vs t → IsE h us u → okT d t → okT d' u → Fn0 T F.ref04_Same [.agg vs.toArray, .agg us.toArray] h fun v h' => v = .bool (sameB t u) := by
  refine tree_ind fun t ih => ?_
  intro u h vs us d d' w w' ht hu
  obtain ⟨op, arg, neg, l, m, name, ks⟩ := t
  obtain ⟨op1, arg1, neg1, l1, m1, name1, ks1⟩ := u
  obtain ⟨a, b, s, rfl, ho, ha, hv, hb, hk⟩ := w.isK
  obtain ⟨a1, b1, s1, rfl, ho1, ha1, hv1, hb1, hk1⟩ := w'.isK
  rw [okT] at ht hu
  obtain ⟨-, hn, hoks⟩ := ht
  obtain ⟨-, hn1, hoks1⟩ := hu
  have c1 := fun h hv hv1 => RSame_ct h neg a b l m neg1 a1 b1 l1 m1 hv hv1 (node_sz hn) (node_sz hn1)
  have hks : ks.length ≤ 3 := by
    have h1 := hn.1
    have h2 := kidsN_le op
    omega
  have hkl := hk.len
  have hkl1 := hk1.len
  have f0 : ¬ (op = op1 ∧ arg = arg1 ∧ name = name1 ∧ ratOf neg l m = ratOf neg1 l1 m1) → sameB (.mk op arg neg l m name ks) (.mk op1 arg1 neg1 l1 m1 name1 ks1) = false := fun x => by rw [sameB, decide_eq_false x, Bool.false_and]
  have g1 := fun (x : ¬ op = op1) => f0 fun y => x y.1
  have g2 := fun (x : ¬ arg = arg1) => f0 fun y => x y.2.1
  have g3 := fun (x : ¬ name = name1) => f0 fun y => x y.2.2.1
  have g4 := fun (x : ¬ ratOf neg l m = ratOf neg1 l1 m1) => f0 fun y => x y.2.2.2
  have f2 : ¬ ks.length = ks1.length → sameB (.mk op arg neg l m name ks) (.mk op1 arg1 neg1 l1 m1 name1 ks1) = false := fun x => by
    rw [sameB, Bool.and_eq_false_iff]; right
    cases e : sameBs ks ks1 with
    | false => rfl
    | true => exact absurd (sameBs_len e) x
  have f3 : ∀ (j : Nat) t u, ks[j]? = some t → ks1[j]? = some u → sameB t u = false → sameB (.mk op arg neg l m name ks) (.mk op1 arg1 neg1 l1 m1 name1 ks1) = false := fun j t u a b c => by rw [sameB, sameBs_not a b c, Bool.and_false]
  have f4 : op = op1 → arg = arg1 → name = name1 → ratOf neg l m = ratOf neg1 l1 m1 → ks.length = ks1.length → (∀ (j : Nat) t u, ks[j]? = some t → ks1[j]? = some u → sameB t u = true) → sameB (.mk op arg neg l m name ks) (.mk op1 arg1 neg1 l1 m1 name1 ks1) = true := fun a b c d e f => by
    rw [sameB, decide_eq_true ⟨a, b, c, d⟩, sameBs_all e f]; rfl
  obtain ⟨R, hR⟩ : ∃ R, R = sameB (.mk op arg neg l m name ks) (.mk op1 arg1 neg1 l1 m1 name1 ks1) := ⟨_, rfl⟩
  rw [← hR] at g1 g2 g3 g4 f2 f3 f4 ⊢
  clear f0 hR
  obtain ⟨q, hq⟩ : ∃ q, q = ratOf neg l m := ⟨_, rfl⟩
  obtain ⟨q1, hq1⟩ : ∃ q, q = ratOf neg1 l1 m1 := ⟨_, rfl⟩
  rw [← hq, ← hq1] at c1 g4 f4
  refine fn0_of_codeI ok D.ref04_Same rfl ?_
  conv => whnf
  repeat ((first | refine opsI.step ?_ | refine codeI.step ?_); conv => whnf)
  repeat' first | (show LdN _ _ _ _ _; first | (refine LdN.ownAt 0 rfl rfl ?_; conv => whnf) | (refine LdN.ownAt 1 rfl rfl ?_; conv => whnf)) | (show cnd _ _ _; first | (refine cnd_txt hb hb1 (fun _ => ?_) (fun _ => ?_) <;> (conv => whnf)) | (refine cnd_eq (fun _ => ?_) (fun _ => ?_) <;> first | (exfalso; omega) | (conv => whnf)) | (refine cnd_not ?_) | (refine cnd_dec (fun _ => ?_) (fun _ => ?_) <;> first | (exfalso; omega) | (conv => whnf))) | (show CallN _ _ _ _ _ _; first | (refine CallN.fn rfl (c1 _ (by assumption) (by assumption)) (fun v h' hl hr => ?_); subst hr; conv => whnf)) | ((first | refine opsI.step ?_ | refine codeI.step ?_); conv => whnf) | (intro (_ : Nat); conv => whnf) | (show Ld _ _ _ _; first | (refine Ld.own 0 rfl rfl ?_; conv => whnf) | (refine Ld.own 1 rfl rfl ?_; conv => whnf))
  all_goals try first
    | (refine RetN.all ?_; rw [g1 (by assumption)]; done)
    | (refine RetN.all ?_; rw [g2 (by assumption)]; done)
    | (refine RetN.all ?_; rw [g3 (by assumption)]; done)
    | (refine RetN.all ?_; rw [g4 (by assumption)]; done)
    | (refine RetN.all ?_; rw [f2 (by omega)]; done)
  rename_i be bf o1 o2 o3 o4 o5
  replace f4 := f4 (by assumption) (by assumption) (by assumption) (by assumption) (by omega)
  have hle0 : h.le h' := by assumption
  have hkk : ks.length = ks1.length := by omega
  clear g1 g2 g3 g4 f2 c1
  refine LoopN.of (fun r ρ hx L => ∃ j : Nat, r = ks.length - j ∧ h.le hx ∧ j ≤ ks.length ∧ rd ρ 5 = .int .i64 j ∧
      L = [(bf, .cells [.int .i64 op1, .int .i64 arg1, .bool neg1, a1.val, b1.val, .string (txt name1), s1.val].toArray Ty.api_Expr (0, 0)), (be, .cells [.int .i64 op, .int .i64 arg, .bool neg, a.val, b.val, .string (txt name), s.val].toArray Ty.api_Expr (0, 0))] ∧
      Hq (∀ (i : Nat) t u, i < j → ks[i]? = some t → ks1[i]? = some u → sameB t u = true)) ks.length
    ⟨0, rfl, hle0, Nat.zero_le _, rfl, rfl, ⟨fun i t u x => absurd x (Nat.not_lt_zero _)⟩⟩ ?_
  conv => whnf
  repeat intro _
  rename_i r hx L2 hI
  obtain ⟨j, rfl, hle, hj, e5, rfl, hq⟩ := hI
  conv at e5 => lhs; whnf
  subst e5
  by_cases hjl : j = ks.length
  · subst hjl
    rw [f4 fun j t u x y => hq.out j t u (List.getElem?_eq_some_iff.1 x).1 x y]
    conv => whnf
    repeat ((first | refine opsI.step ?_ | refine codeI.step ?_); conv => whnf)
    repeat' first | ((first | refine opsI.step ?_ | refine codeI.step ?_); conv => whnf) | (refine cnd_lt (fun _ => ?_) (fun _ => ?_) <;> first | (exfalso; omega) | (conv => whnf)) | (refine Ld.own 1 rfl rfl ?_; conv => whnf)
    exact RetN.all rfl
  · obtain ⟨t, ht⟩ : ∃ t, ks[j]? = some t := ⟨_, List.getElem?_eq_getElem (by omega)⟩
    obtain ⟨u, hu⟩ : ∃ t, ks1[j]? = some t := ⟨_, List.getElem?_eq_getElem (by omega)⟩
    have c2 := fun h vs us w w' => ih t (szT_kid ht) u h vs us (d + 1) (d' + 1) w w' (okTs_get hoks ht) (okTs_get hoks1 hu)
    have f3 := f3 j t u ht hu
    obtain ⟨C, hC⟩ : ∃ C, C = sameB t u := ⟨_, rfl⟩
    rw [← hC] at c2 f3
    have hkx := hk.mono hle
    have hkx1 := hk1.mono hle
    conv => whnf
    repeat ((first | refine opsI.step ?_ | refine codeI.step ?_); conv => whnf)
    repeat' first | (show Idx _ _ _ _ _; first | (refine Idx.kid hkx j t (by omega) ht (fun ad op2 arg2 neg2 a2 b2 name2 s2 hE hld => ?_); conv => whnf) | (refine Idx.kid hkx1 j u (by omega) hu (fun ad3 op3 arg3 neg3 a3 b3 name3 s3 hE3 hld3 => ?_); conv => whnf)) | (refine hld _ _ _ (Heap.le_refl _) ?_; conv => whnf) | (refine hld3 _ _ _ (Heap.le_refl _) ?_; conv => whnf) | ((first | refine opsI.step ?_ | refine codeI.step ?_); conv => whnf) | (refine ⟨fun _ => HasLe.of_le (by assumption), ?_⟩; conv => whnf) | (show CallN _ _ _ _ _ _; first | (refine CallN.fn rfl (c2 _ _ _ (by assumption) (by assumption)) (fun v h' hl2 hr => ?_); subst hr; conv => whnf)) | (refine WrapN.i64 (by omega) (by omega) ?_; conv => whnf) | (show cnd _ _ _; first | (refine cnd_lt (fun _ => ?_) (fun _ => ?_) <;> first | (exfalso; omega) | (conv => whnf)) | (refine cnd_not ?_) | (refine cnd_bool (fun hb => ?_) (fun hb => ?_) <;> (first | cases hb | subst hb) <;> (conv => whnf))) | (show Ld _ _ _ _; first | (refine Ld.own 0 rfl rfl ?_; conv => whnf) | (refine Ld.own 1 rfl rfl ?_; conv => whnf)) | (refine DrawN.run (by decide +kernel) ?_; conv => whnf)
    · exact ⟨rfl, ks.length - (j + 1), by omega, j + 1, rfl, (by (iterate 30 (try first | assumption | refine Heap.le_trans ?_ (by assumption))); first | done | assumption), by omega, vi (by omega), rfl, ⟨fun i t' u' x y z => by
        rcases Nat.lt_succ_iff_lt_or_eq.1 x with x | rfl
        · exact hq.out i t' u' x y z
        · rw [ht] at y; rw [hu] at z; cases y; cases z; rw [← hC]⟩⟩
    · rw [f3 rfl]; exact RetN.all rfl
def EqC (ks ks1 : List Tr) : Prop := ∀ (j : Nat) t u, ks[j]? = some t → ks1[j]? = some u → ∀ h vs us, Tb h → IsE h vs t → IsE h us u → Fn0 T F.expr_equal [.agg vs.toArray, .agg us.toArray] h fun v h' => v = .bool (sameB t u)
set_option maxRecDepth 20000 in
set_option maxHeartbeats 2000000 in
theorem EqualFunc_ct (ks ks1 : List Tr) (hc : EqC ks ks1) (h : Heap) (tb : Tb h) (s s1 : Sl) (hk : IsK h s ks) (hk1 : IsK h s1 ks1) (hks : ks.length ≤ 3) (hks1 : ks1.length ≤ 3) :
    Fn0 T F.slices_EqualFunc_of__of_api_Expr__of_api_Expr_api_Expr_api_Expr [s.val, s1.val, .func (.func F.expr_equal) #[] #[]] h fun v h' => v = .bool (sameBs ks ks1) := by
  have hkl := hk.len
  have hkl1 := hk1.len
  have f2 : ¬ ks.length = ks1.length → sameBs ks ks1 = false := fun x => by
    cases e : sameBs ks ks1 with
    | false => rfl
    | true => exact absurd (sameBs_len e) x
  have f3 : ∀ (j : Nat) t u, ks[j]? = some t → ks1[j]? = some u → sameB t u = false → sameBs ks ks1 = false := fun j t u a b c => sameBs_not a b c
  have f4 : ks.length = ks1.length → (∀ (j : Nat) t u, ks[j]? = some t → ks1[j]? = some u → sameB t u = true) → sameBs ks ks1 = true := sameBs_all
  obtain ⟨R, hR⟩ : ∃ R, R = sameBs ks ks1 := ⟨_, rfl⟩
  rw [← hR] at f2 f3 f4 ⊢
  clear hR
  refine fn0_of_codeI ok D.slices_EqualFunc_of__of_api_Expr__of_api_Expr_api_Expr_api_Expr rfl ?_
  conv => whnf
  repeat ((first | refine opsI.step ?_ | refine codeI.step ?_); conv => whnf)
  repeat' first | ((first | refine opsI.step ?_ | refine codeI.step ?_); conv => whnf) | (show cnd _ _ _; first | (refine cnd_eq (fun _ => ?_) (fun _ => ?_) <;> first | (exfalso; omega) | (conv => whnf)) | (refine cnd_not ?_))
  all_goals try (rw [f2 (by omega)]; exact RetN.all rfl)
  have hkk : ks.length = ks1.length := by omega
  replace f4 := f4 hkk
  refine LoopN.of (fun r ρ hx L => ∃ j : Nat, r = ks.length - j ∧ h.le hx ∧ j ≤ ks.length ∧ rd ρ 17 = .int .i64 j ∧ Hq (∀ (i : Nat) t u, i < j → ks[i]? = some t → ks1[i]? = some u → sameB t u = true)) ks.length
    ⟨0, rfl, Heap.le_refl _, Nat.zero_le _, rfl, ⟨fun i t u x => absurd x (Nat.not_lt_zero _)⟩⟩ ?_
  conv => whnf
  repeat intro _
  rename_i r hx L2 hI
  obtain ⟨j, rfl, hle, hj, e17, hq⟩ := hI
  conv at e17 => lhs; whnf
  subst e17
  by_cases hjl : j = ks.length
  · subst hjl
    rw [f4 fun j t u x y => hq.out j t u (List.getElem?_eq_some_iff.1 x).1 x y]
    conv => whnf
    repeat ((first | refine opsI.step ?_ | refine codeI.step ?_); conv => whnf)
    repeat' first | ((first | refine opsI.step ?_ | refine codeI.step ?_); conv => whnf) | (refine cnd_lt (fun _ => ?_) (fun _ => ?_) <;> first | (exfalso; omega) | (conv => whnf))
    exact RetN.all rfl
  · obtain ⟨t, ht⟩ : ∃ t, ks[j]? = some t := ⟨_, List.getElem?_eq_getElem (by omega)⟩
    obtain ⟨u, hu⟩ : ∃ t, ks1[j]? = some t := ⟨_, List.getElem?_eq_getElem (by omega)⟩
    have c2 := hc j t u ht hu
    have f3 := f3 j t u ht hu
    obtain ⟨C, hC⟩ : ∃ C, C = sameB t u := ⟨_, rfl⟩
    rw [← hC] at c2 f3
    have hkx := hk.mono hle
    have hkx1 := hk1.mono hle
    conv => whnf
    repeat ((first | refine opsI.step ?_ | refine codeI.step ?_); conv => whnf)
    repeat' first | (show Idx _ _ _ _ _; first | (refine Idx.kid hkx j t (by omega) ht (fun ad op2 arg2 neg2 a2 b2 name2 s2 hE hld => ?_); conv => whnf) | (refine Idx.kid hkx1 j u (by omega) hu (fun ad3 op3 arg3 neg3 a3 b3 name3 s3 hE3 hld3 => ?_); conv => whnf)) | (refine hld _ _ _ (Heap.le_refl _) ?_; conv => whnf) | (refine hld3 _ _ _ (Heap.le_refl _) ?_; conv => whnf) | ((first | refine opsI.step ?_ | refine codeI.step ?_); conv => whnf) | (intro (_ : Nat); conv => whnf) | (show CallN _ _ _ _ _ _; first | (refine CallN.fn rfl (c2 _ _ _ (by (iterate 30 (try first | assumption | refine Tb.mono ?_ (by assumption))); first | done | assumption) (by assumption) (by assumption)) (fun v h' hl2 hr => ?_); subst hr; conv => whnf)) | (refine WrapN.i64 (by omega) (by omega) ?_; conv => whnf) | (show cnd _ _ _; first | (refine cnd_lt (fun _ => ?_) (fun _ => ?_) <;> first | (exfalso; omega) | (conv => whnf)) | (refine cnd_not ?_) | (refine cnd_bool (fun hb => ?_) (fun hb => ?_) <;> (first | cases hb | subst hb) <;> (conv => whnf))) | (show LdN _ _ _ _ _; first | (refine LdN.own 0 rfl rfl ?_; conv => whnf) | (refine LdN.own 1 rfl rfl ?_; conv => whnf)) | (refine Sto.lit 0 rfl rfl rfl ?_; conv => whnf)
    · exact ⟨rfl, ks.length - (j + 1), by omega, j + 1, rfl, (by (iterate 30 (try first | assumption | refine Heap.le_trans ?_ (by assumption))); first | done | assumption), by omega, vi (by omega), ⟨fun i t' u' x y z => by
        rcases Nat.lt_succ_iff_lt_or_eq.1 x with x | rfl
        · exact hq.out i t' u' x y z
        · rw [ht] at y; rw [hu] at z; cases y; cases z; rw [← hC]⟩⟩
    · rw [f3 rfl]; exact RetN.all rfl
set_option maxRecDepth 20000 in
set_option maxHeartbeats 2000000 in
theorem equal_ct : ∀ t : Tr, ∀ (u : Tr) (h : Heap) (vs us : List Value) (d d' : Nat), Tb h → IsE h vs t → IsE h us u → okT d t → okT d' u → Fn0 T F.expr_equal [.agg vs.toArray, .agg us.toArray] h fun v h' => v = .bool (sameB t u) := by
  refine tree_ind fun t ih => ?_
  intro u h vs us d d' tb w w' ht hu
  obtain ⟨op, arg, neg, l, m, name, ks⟩ := t
  obtain ⟨op1, arg1, neg1, l1, m1, name1, ks1⟩ := u
  obtain ⟨a, b, s, rfl, ho, ha, hv, hb, hk⟩ := w.isK
  obtain ⟨a1, b1, s1, rfl, ho1, ha1, hv1, hb1, hk1⟩ := w'.isK
  rw [okT] at ht hu
  obtain ⟨-, hn, hoks⟩ := ht
  obtain ⟨-, hn1, hoks1⟩ := hu
  have hq2 := hn.2.2.2.2
  have hq3 := hn1.2.2.2.2
  have hks : ks.length ≤ 3 := by
    have h1 := hn.1
    have h2 := kidsN_le op
    omega
  have hks1 : ks1.length ≤ 3 := by
    have h1 := hn1.1
    have h2 := kidsN_le op1
    omega
  have c1 := fun h tb hv hv1 => NCompare_ct h tb neg a b l m neg1 a1 b1 l1 m1 hv hv1
  have c2 := fun h tb hk hk1 => EqualFunc_ct ks ks1 (fun j t u a b h vs us tb w w' => ih t (szT_kid a) u h vs us (d + 1) (d' + 1) tb w w' (okTs_get hoks a) (okTs_get hoks1 b)) h tb s s1 hk hk1 hks hks1
  have f0 : ¬ (op = op1 ∧ arg = arg1 ∧ name = name1 ∧ ratOf neg l m = ratOf neg1 l1 m1) → sameB (.mk op arg neg l m name ks) (.mk op1 arg1 neg1 l1 m1 name1 ks1) = false := fun x => by rw [sameB, decide_eq_false x, Bool.false_and]
  have g1 := fun (x : ¬ op = op1) => f0 fun y => x y.1
  have g2 := fun (x : ¬ arg = arg1) => f0 fun y => x y.2.1
  have g3 := fun (x : ¬ name = name1) => f0 fun y => x y.2.2.1
  have p1 : op = op1 → arg = arg1 → name = name1 → op = 1 → eq (specCmp neg l m neg1 l1 m1).1 0 = sameB (.mk op arg neg l m name ks) (.mk op1 arg1 neg1 l1 m1 name1 ks1) := fun x y z o => by
    rw [if_pos o] at hq2
    rw [if_pos (x ▸ o)] at hq3
    have e1 : ks = [] := List.length_eq_zero_iff.1 (by have h1 := hn.1; rw [o] at h1; have : kidsN 1 = 0 := rfl; omega)
    have e2 : ks1 = [] := List.length_eq_zero_iff.1 (by have h1 := hn1.1; rw [← x, o] at h1; have : kidsN 1 = 0 := rfl; omega)
    rw [specCmp, if_pos ⟨hq2.1, hq3.1⟩, sameB, e1, e2, sameBs, Bool.and_true, eq_dec, dec_eq]
    exact decide_eq_decide.2 (cmpQ_eq.trans ⟨fun u => ⟨x, y, z, u⟩, fun u => u.2.2.2⟩)
  have p2 : op = op1 → arg = arg1 → name = name1 → ¬ op = 1 → sameBs ks ks1 = sameB (.mk op arg neg l m name ks) (.mk op1 arg1 neg1 l1 m1 name1 ks1) := fun x y z o => by
    rw [if_neg o] at hq2
    rw [if_neg (x ▸ o)] at hq3
    have e1 : ratOf neg l m = 0 := ratOf_nil hq2
    have e2 : ratOf neg1 l1 m1 = 0 := ratOf_nil hq3
    rw [sameB, decide_eq_true ⟨x, y, z, e1.trans e2.symm⟩, Bool.true_and]
  obtain ⟨R, hR⟩ : ∃ R, R = sameB (.mk op arg neg l m name ks) (.mk op1 arg1 neg1 l1 m1 name1 ks1) := ⟨_, rfl⟩
  obtain ⟨R2, hR2⟩ : ∃ R, R = sameBs ks ks1 := ⟨_, rfl⟩
  obtain ⟨⟨C1, C2⟩, hC⟩ : ∃ R, R = specCmp neg l m neg1 l1 m1 := ⟨_, rfl⟩
  rw [← hR] at g1 g2 g3 p1 p2 ⊢
  rw [← hR2] at c2 p2
  rw [← hC] at c1 p1
  clear f0 hR hR2 hC
  replace p1 : op = op1 → arg = arg1 → name = name1 → op = 1 → eq C1 0 = R := p1
  replace c1 : ∀ h, Tb h → IsVal h a b l m → IsVal h a1 b1 l1 m1 → Fn0 T F.number_Compare [.agg #[.bool neg, a.val, b.val], .agg #[.bool neg1, a1.val, b1.val]] h fun v _ => v = .tuple #[.int .i64 C1, .int .i64 C2] := c1
  refine fn0_of_codeI ok D.expr_equal rfl ?_
  conv => whnf
  repeat ((first | refine opsI.step ?_ | refine codeI.step ?_); conv => whnf)
  repeat' first | (show LdN _ _ _ _ _; first | (refine LdN.ownAt 0 rfl rfl ?_; conv => whnf) | (refine LdN.ownAt 1 rfl rfl ?_; conv => whnf)) | (show cnd _ _ _; first | (refine cnd_txt hb hb1 (fun _ => ?_) (fun _ => ?_) <;> (conv => whnf)) | (refine cnd_eq (fun _ => ?_) (fun _ => ?_) <;> first | (exfalso; omega) | (conv => whnf)) | (refine cnd_not ?_)) | (show CallN _ _ _ _ _ _; first | (refine CallN.fn rfl (c1 _ (by assumption) (by assumption) (by assumption)) (fun v h' hl hr => ?_); subst hr; conv => whnf) | (refine CallN.fn rfl (c2 _ (by assumption) (by assumption) (by assumption)) (fun v h' hl hr => ?_); subst hr; conv => whnf)) | ((first | refine opsI.step ?_ | refine codeI.step ?_); conv => whnf) | (intro (_ : Nat); conv => whnf) | (show Ld _ _ _ _; first | (refine Ld.own 0 rfl rfl ?_; conv => whnf) | (refine Ld.own 1 rfl rfl ?_; conv => whnf))
  all_goals first
    | (refine RetN.all ?_; rw [g1 (by assumption)]; done)
    | (refine RetN.all ?_; rw [g2 (by assumption)]; done)
    | (refine RetN.all ?_; rw [g3 (by assumption)]; done)
    | (refine RetN.all ?_; rw [p1 (by assumption) (by assumption) (by assumption) (by assumption)]; done)
    | (refine RetN.all ?_; rw [p2 (by assumption) (by assumption) (by assumption) (by assumption)]; done)
def eqX (t u : Tr) : Bool × Int := if ValT t ∧ ValT u then (sameB t u, 0) else (false, 40)
set_option maxRecDepth 20000 in
theorem XEqual_ct (t u : Tr) (h : Heap) (vs us : List Value) (tb : Tb h) (w : IsE h vs t) (w' : IsE h us u) : Fn0 T F.expr_Equal [.agg vs.toArray, .agg us.toArray] h fun v h' => v = .tuple #[.bool (eqX t u).1, .int .i64 (eqX t u).2] := by
  have c1 := fun h tb w => Valid_ct t h vs tb w
  have c2 := fun h tb w => Valid_ct u h us tb w
  have c3 := fun h tb w w' (x : ValT t) (y : ValT u) => equal_ct t u h vs us 1 1 tb w w' x.1 y.1
  have f1 : ¬ ValT t → eqX t u = (false, 40) := fun x => if_neg fun y => x y.1
  have f2 : ¬ ValT u → eqX t u = (false, 40) := fun x => if_neg fun y => x y.2
  have f3 : ValT t → ValT u → eqX t u = (sameB t u, 0) := fun x y => if_pos ⟨x, y⟩
  obtain ⟨X, hX⟩ : ∃ X, X = eqX t u := ⟨_, rfl⟩
  rw [← hX] at f1 f2 f3 ⊢
  obtain ⟨⟨op, arg, neg, l, m, name, ks⟩, ht⟩ : ∃ x, x = t := ⟨_, rfl⟩
  obtain ⟨a, b, s, hvs, -⟩ := (ht.symm ▸ w : IsE h vs (.mk op arg neg l m name ks)).isK
  obtain ⟨⟨op1, arg1, neg1, l1, m1, name1, ks1⟩, hu⟩ : ∃ x, x = u := ⟨_, rfl⟩
  obtain ⟨a1, b1, s1, hus, -⟩ := (hu.symm ▸ w' : IsE h us (.mk op1 arg1 neg1 l1 m1 name1 ks1)).isK
  subst hvs hus
  refine fn0_of_codeI ok D.expr_Equal rfl ?_
  conv => whnf
  repeat ((first | refine opsI.step ?_ | refine codeI.step ?_); conv => whnf)
  repeat' first | (show CallN _ _ _ _ _ _; first | (refine CallN.fn rfl (c3 _ (by (iterate 30 (try first | assumption | refine Tb.mono ?_ (by assumption))); first | done | assumption) (by (iterate 30 (try first | assumption | refine IsE.mono ?_ (by assumption))); first | done | assumption) (by (iterate 30 (try first | assumption | refine IsE.mono ?_ (by assumption))); first | done | assumption) (by assumption) (by assumption)) (fun v h' hl2 hr => ?_); subst hr; conv => whnf) | (refine CallN.fn rfl (c1 _ (by assumption) (by assumption)) (fun v h' hl2 hr => ?_); subst hr; conv => whnf) | (refine CallN.fn rfl (c2 _ (by (iterate 30 (try first | assumption | refine Tb.mono ?_ (by assumption))); first | done | assumption) (by (iterate 30 (try first | assumption | refine IsE.mono ?_ (by assumption))); first | done | assumption)) (fun v h' hl2 hr => ?_); subst hr; conv => whnf)) | ((first | refine opsI.step ?_ | refine codeI.step ?_); conv => whnf) | (intro (_ : Nat); conv => whnf) | (show cnd _ _ _; first | (refine cnd_not ?_) | (refine cnd_dec (fun _ => ?_) (fun _ => ?_) <;> first | (exfalso; omega) | (conv => whnf))) | (show LdN _ _ _ _ _; first | (refine LdN.own 0 rfl rfl ?_; conv => whnf) | (refine LdN.own 1 rfl rfl ?_; conv => whnf))
  all_goals first
    | (rw [f3 (by assumption) (by assumption)]; exact RetN.all rfl)
    | (rw [f1 (by assumption)]; exact RetN.all rfl)
    | (rw [f2 (by assumption)]; exact RetN.all rfl)
set_option maxRecDepth 20000 in
theorem REqual_ct (t u : Tr) (h : Heap) (vs us : List Value) (w : IsE h vs t) (w' : IsE h us u) : Fn0 T F.ref04_Equal [.agg vs.toArray, .agg us.toArray] h fun v h' => v = .tuple #[.bool (eqX t u).1, .int .i64 (eqX t u).2] := by
  have c1 := fun h w => RValid_ct t h vs w
  have c2 := fun h w => RValid_ct u h us w
  have c3 := fun h w w' (x : ValT t) (y : ValT u) => Same_ct t u h vs us 1 1 w w' x.1 y.1
  have f1 : ¬ ValT t → eqX t u = (false, 40) := fun x => if_neg fun y => x y.1
  have f2 : ¬ ValT u → eqX t u = (false, 40) := fun x => if_neg fun y => x y.2
  have f3 : ValT t → ValT u → eqX t u = (sameB t u, 0) := fun x y => if_pos ⟨x, y⟩
  obtain ⟨X, hX⟩ : ∃ X, X = eqX t u := ⟨_, rfl⟩
  rw [← hX] at f1 f2 f3 ⊢
  obtain ⟨⟨op, arg, neg, l, m, name, ks⟩, ht⟩ : ∃ x, x = t := ⟨_, rfl⟩
  obtain ⟨a, b, s, hvs, -⟩ := (ht.symm ▸ w : IsE h vs (.mk op arg neg l m name ks)).isK
  obtain ⟨⟨op1, arg1, neg1, l1, m1, name1, ks1⟩, hu⟩ : ∃ x, x = u := ⟨_, rfl⟩
  obtain ⟨a1, b1, s1, hus, -⟩ := (hu.symm ▸ w' : IsE h us (.mk op1 arg1 neg1 l1 m1 name1 ks1)).isK
  subst hvs hus
  refine fn0_of_codeI ok D.ref04_Equal rfl ?_
  conv => whnf
  repeat ((first | refine opsI.step ?_ | refine codeI.step ?_); conv => whnf)
  repeat' first | (show CallN _ _ _ _ _ _; first | (refine CallN.fn rfl (c3 _ (by (iterate 30 (try first | assumption | refine IsE.mono ?_ (by assumption))); first | done | assumption) (by (iterate 30 (try first | assumption | refine IsE.mono ?_ (by assumption))); first | done | assumption) (by assumption) (by assumption)) (fun v h' hl2 hr => ?_); subst hr; conv => whnf) | (refine CallN.fn rfl (c1 _ (by assumption)) (fun v h' hl2 hr => ?_); subst hr; conv => whnf) | (refine CallN.fn rfl (c2 _ (by (iterate 30 (try first | assumption | refine IsE.mono ?_ (by assumption))); first | done | assumption)) (fun v h' hl2 hr => ?_); subst hr; conv => whnf)) | ((first | refine opsI.step ?_ | refine codeI.step ?_); conv => whnf) | (intro (_ : Nat); conv => whnf) | (show cnd _ _ _; first | (refine cnd_not ?_) | (refine cnd_dec (fun _ => ?_) (fun _ => ?_) <;> first | (exfalso; omega) | (conv => whnf))) | (show LdN _ _ _ _ _; first | (refine LdN.own 0 rfl rfl ?_; conv => whnf) | (refine LdN.own 1 rfl rfl ?_; conv => whnf))
  all_goals first
    | (rw [f3 (by assumption) (by assumption)]; exact RetN.all rfl)
    | (rw [f1 (by assumption)]; exact RetN.all rfl)
    | (rw [f2 (by assumption)]; exact RetN.all rfl)
theorem sameB_refl (t : Tr) : sameB t t = true := by
  refine tree_ind (P := fun t => sameB t t = true) (fun t ih => ?_) t
  obtain ⟨op, arg, neg, l, m, name, ks⟩ := t
  rw [sameB, decide_eq_true ⟨rfl, rfl, rfl, rfl⟩, Bool.true_and]
  exact sameBs_all rfl fun j t u a b => by rw [a] at b; cases b; exact ih t (szT_kid a)
theorem beq_self (b : Bool) : Vc.beq b b = true := by unfold Vc.beq; exact beq_self_eq_true b
theorem eq_self (x : Int) : eq x x = true := by rw [eq_dec, dec_true rfl]
attribute [local irreducible] Vc.Fn
set_option maxRecDepth 20000 in
set_option maxHeartbeats 1000000 in
theorem XEqual_law (h : Heap) (tb : Tb h) (pw : Pw h) (t : Tr) (vs : List Value) (w : IsE h vs t) (u : Tr) (us : List Value) (w' : IsE h us u) : Fn0 T F.law04_ExprEqual [.agg vs.toArray, .agg us.toArray] h fun v h' => v = .bool true := by
  have c1 := fun h tb w w' => XEqual_ct t u h vs us tb w w'
  have c2 := fun h w w' => REqual_ct t u h vs us w w'
  have c3 := fun h tb w => XEqual_ct t t h vs vs tb w w
  have c4 := fun h w => RValid_ct t h vs w
  have c5 := fun h tb pw => sane_ct h tb pw
  have f1 : ValT t → eqX t t = (true, 0) := fun x => by unfold eqX; rw [if_pos ⟨x, x⟩, sameB_refl]
  have f2 : ¬ ValT t → eqX t t = (false, 40) := fun x => if_neg fun y => x y.1
  obtain ⟨⟨X1, X2⟩, hX⟩ : ∃ X, X = eqX t u := ⟨_, rfl⟩
  rw [← hX] at c1 c2
  replace c1 : ∀ h, Tb h → IsE h vs t → IsE h us u → Fn0 T F.expr_Equal [.agg vs.toArray, .agg us.toArray] h fun v h' => v = .tuple #[.bool X1, .int .i64 X2] := c1
  replace c2 : ∀ h, IsE h vs t → IsE h us u → Fn0 T F.ref04_Equal [.agg vs.toArray, .agg us.toArray] h fun v h' => v = .tuple #[.bool X1, .int .i64 X2] := c2
  obtain ⟨⟨Y1, Y2⟩, hY⟩ : ∃ X, X = eqX t t := ⟨_, rfl⟩
  rw [← hY] at c3 f1 f2
  replace c3 : ∀ h, Tb h → IsE h vs t → Fn0 T F.expr_Equal [.agg vs.toArray, .agg vs.toArray] h fun v h' => v = .tuple #[.bool Y1, .int .i64 Y2] := c3
  obtain ⟨B, hB⟩ : ∃ B, B = dec (ValT t) := ⟨_, rfl⟩
  rw [← hB] at c4
  have hyb : Y1 = B ∧ eq Y2 0 = B := by
    by_cases x : ValT t
    · have := f1 x; injection this with h1 h2
      subst h1 h2
      rw [hB, dec_true x]; exact ⟨rfl, eq_self 0⟩
    · have := f2 x; injection this with h1 h2
      subst h1 h2
      rw [hB, dec_false x]; exact ⟨rfl, by rw [eq_dec, dec_false (by decide)]⟩
  obtain ⟨rfl, hyb⟩ := hyb
  have b1 := beq_self X1
  have b2 := beq_self Y1
  have b3 := eq_self X2
  clear hX hY hB f1 f2
  obtain ⟨⟨op, arg, neg, l, m, name, ks⟩, ht⟩ : ∃ x, x = t := ⟨_, rfl⟩
  obtain ⟨a, b, s, hvs, -⟩ := (ht.symm ▸ w : IsE h vs (.mk op arg neg l m name ks)).isK
  obtain ⟨⟨op1, arg1, neg1, l1, m1, name1, ks1⟩, hu⟩ : ∃ x, x = u := ⟨_, rfl⟩
  obtain ⟨a1, b1', s1, hus, -⟩ := (hu.symm ▸ w' : IsE h us (.mk op1 arg1 neg1 l1 m1 name1 ks1)).isK
  subst hvs hus
  refine fn0_of_codeI ok D.law04_ExprEqual rfl ?_
  conv => whnf
  repeat ((first | refine opsI.step ?_ | refine codeI.step ?_); conv => whnf)
  repeat' first | (show CallN _ _ _ _ _ _; first | (refine CallN.fn rfl (c3 _ (by (iterate 30 (try first | assumption | refine Tb.mono ?_ (by assumption))); first | done | assumption) (by (iterate 30 (try first | assumption | refine IsE.mono ?_ (by assumption))); first | done | assumption)) (fun v h' hl2 hr => ?_); subst hr; conv => whnf) | (refine CallN.fn rfl (c1 _ (by assumption) (by assumption) (by assumption)) (fun v h' hl2 hr => ?_); subst hr; conv => whnf) | (refine CallN.fn rfl (c2 _ (by (iterate 30 (try first | assumption | refine IsE.mono ?_ (by assumption))); first | done | assumption) (by (iterate 30 (try first | assumption | refine IsE.mono ?_ (by assumption))); first | done | assumption)) (fun v h' hl2 hr => ?_); subst hr; conv => whnf) | (refine CallN.fn rfl (c4 _ (by (iterate 30 (try first | assumption | refine IsE.mono ?_ (by assumption))); first | done | assumption)) (fun v h' hl2 hr => ?_); subst hr; conv => whnf) | (refine CallN.fn rfl (c5 _ (by (iterate 30 (try first | assumption | refine Tb.mono ?_ (by assumption))); first | done | assumption) (by iterate 9 (try first | assumption | refine Pw.mono ?_ (by assumption)))) (fun v h' hl2 hr => ?_); subst hr; conv => whnf)) | ((first | refine opsI.step ?_ | refine codeI.step ?_); conv => whnf) | (intro (_ : Nat); conv => whnf) | (show cnd _ _ _; first | (refine cnd_eq (fun _ => ?_) (fun _ => ?_) <;> first | (exfalso; omega) | (conv => whnf)) | (refine cnd_beq (fun _ => ?_) (fun hne => ?_) <;> first | exact absurd rfl hne | (conv => whnf))) | (show LdN _ _ _ _ _; first | (refine LdN.own 0 rfl rfl ?_; conv => whnf) | (refine LdN.own 1 rfl rfl ?_; conv => whnf))
  all_goals first
    | exact RetN.all rfl
    | (exfalso; exact absurd hyb (by assumption))
end Go.Proofs.YtchcjbbnkcodjaaGreatDoor
