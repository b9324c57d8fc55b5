/- Equal trees: plain; the reference's Same, the program's equal. -/
import Derived.Test.YtchcjbbnkcodjaaGreatDoorE31
import Derived.Test.YtchcjbbnkcodjaaGreatDoorL4
set_option linter.unusedVariables false
set_option linter.unusedSimpArgs false
namespace Go.Proofs.YtchcjbbnkcodjaaGreatDoor
open Go Go.Vc Go.Dig
mutual
def sameB : Tr → Tr → Bool
  | .mk op arg neg l m name ks, .mk op' arg' neg' l' m' name' ks' => decide (op = op' ∧ arg = arg' ∧ name = name' ∧ ratOf neg l m = ratOf neg' l' m') && sameBs ks ks'
def sameBs : List Tr → List Tr → Bool
  | [], [] => true
  | [], _ :: _ => false
  | _ :: _, [] => false
  | t :: ts, u :: us => sameB t u && sameBs ts us
end
theorem sameBs_len : ∀ {a b : List Tr}, sameBs a b = true → a.length = b.length
  | [], [], _ => rfl
  | [], _ :: _, h => by rw [sameBs] at h; cases h
  | _ :: _, [], h => by rw [sameBs] at h; cases h
  | t :: ts, u :: us, h => by
    rw [sameBs, Bool.and_eq_true] at h
    rw [List.length_cons, List.length_cons, sameBs_len h.2]
theorem sameBs_not : ∀ {a b : List Tr} {j : Nat} {t u : Tr}, a[j]? = some t → b[j]? = some u → sameB t u = false → sameBs a b = false
  | [], _, _, _, _, h, _, _ => by simp at h
  | _ :: _, [], _, _, _, _, h, _ => by simp at h
  | x :: xs, y :: ys, 0, t, u, h1, h2, h => by
    simp at h1 h2
    subst h1 h2
    rw [sameBs, h, Bool.false_and]
  | x :: xs, y :: ys, j + 1, t, u, h1, h2, h => by
    rw [sameBs, sameBs_not (a := xs) (b := ys) (j := j) (by simpa using h1) (by simpa using h2) h, Bool.and_false]
theorem sameBs_all : ∀ {a b : List Tr}, a.length = b.length → (∀ (j : Nat) t u, a[j]? = some t → b[j]? = some u → sameB t u = true) → sameBs a b = true
  | [], [], _, _ => by rw [sameBs]
  | [], _ :: _, h, _ => by simp at h
  | _ :: _, [], h, _ => by simp at h
  | t :: ts, u :: us, h, g => by
    rw [sameBs, g 0 t u rfl rfl, Bool.true_and]
    exact sameBs_all (by simpa using h) fun j t u h1 h2 => g (j + 1) t u (by simpa using h1) (by simpa using h2)
theorem ratOf_nil {neg : Bool} {l m : List Nat} (h : evl 4294967296 l = 0) : ratOf neg l m = 0 := by
  unfold ratOf
  rw [h, mkQ_zero]
theorem node_sz {op arg : Int} {neg : Bool} {l m name : List Nat} {n : Nat} (h : nodeB op arg neg l m name n) : Sz 64 (ratOf neg l m) := by
  have h4 := h.2.2.2.2
  by_cases ho : op = 1
  · rw [if_pos ho] at h4; exact okR.sz h4.1
  · rw [if_neg ho] at h4
    rw [ratOf_nil h4]; exact sz_zero 63
theorem okTs_get {d : Nat} : ∀ {ts : List Tr} {j : Nat} {t : Tr}, okTs d ts → ts[j]? = some t → okT d t
  | u :: ts, 0, t, h, e => by
    rw [okTs] at h
    simp at e; subst e; exact h.1
  | u :: ts, j + 1, t, h, e => by
    rw [okTs] at h
    exact okTs_get h.2 (by simpa using e)
  | [], j, t, _, e => by simp at e
set_option maxRecDepth 20000 in
theorem RSame_ct (h : Heap) (n1 : Bool) (a1 b1 : Sl) (l1 m1 : List Nat) (n2 : Bool) (a2 b2 : Sl) (l2 m2 : List Nat) (hv1 : IsVal h a1 b1 l1 m1) (hv2 : IsVal h a2 b2 l2 m2) (z1 : Sz 64 (ratOf n1 l1 m1)) (z2 : Sz 64 (ratOf n2 l2 m2)) :
    Fn0 T F.ref01_Same [.agg #[.bool n1, a1.val, b1.val], .agg #[.bool n2, a2.val, b2.val]] h fun v h' => v = .bool (dec (ratOf n1 l1 m1 = ratOf n2 l2 m2)) := by
  have c1 := fun h hv1 => QOf_ct h n1 a1 b1 l1 m1 hv1
  have c2 := fun h hv2 => QOf_ct h n2 a2 b2 l2 m2 hv2
  obtain ⟨q, hq⟩ : ∃ q, q = ratOf n1 l1 m1 := ⟨_, rfl⟩
  obtain ⟨r, hr⟩ : ∃ r, r = ratOf n2 l2 m2 := ⟨_, rfl⟩
  rw [← hq] at c1 z1 ⊢
  rw [← hr] at c2 z2 ⊢
  have y1 : Sr 65536 q := (Sr.of z1).mono (by decide)
  have y2 : Sr 65536 r := (Sr.of z2).mono (by decide)
  have e := cmpQ_eq (q := q) (r := r)
  refine fn0_of_codeI ok D.ref01_Same rfl ?_
  conv => whnf
  repeat ((first | refine opsI.step ?_ | refine codeI.step ?_); conv => whnf)
  repeat' first | (show DrawN _ _ _ _ _ _; first | (refine DrawN.each (by decide +kernel) ?_; conv => whnf)) | (show CallN _ _ _ _ _ _; first | (refine CallN.fn rfl (c1 _ (by assumption)) (fun v h' hl hr => ?_); obtain ⟨x1, x2, rfl, g1⟩ := hr; conv => whnf) | (refine CallN.fn rfl (c2 _ (by (iterate 30 (try first | assumption | refine IsVal.mono ?_ (by assumption))); first | done | assumption)) (fun v h' hl hr => ?_); obtain ⟨x3, x4, rfl, g2⟩ := hr; conv => whnf) | (refine CallN.fn rfl (RCmp_ct _ _ _ _ _ q r (by (iterate 30 (try first | assumption | refine IsQ.mono ?_ (by assumption))); first | done | assumption) (by assumption) y1 y2) (fun v h' hl hr => ?_); subst hr; conv => whnf)) | ((first | refine opsI.step ?_ | refine codeI.step ?_); conv => whnf) | (refine ⟨fun _ => HasLe.of_le (Heap.le_refl _), ?_⟩; conv => whnf) | (refine ⟨fun _ => HasLe.of_le (by assumption), ?_⟩; conv => whnf) | (intro (_ : Nat); conv => whnf) | (show LdN _ _ _ _ _; first | (refine LdN.own 0 rfl rfl ?_; conv => whnf) | (refine LdN.own 1 rfl rfl ?_; conv => whnf)) | (refine Both.mk ?_ ?_ <;> (conv => whnf))
  all_goals exact RetN.all (by congr 1; unfold eq; rw [dec_eq]; exact decide_eq_decide.2 e)
set_option maxRecDepth 20000 in
set_option maxHeartbeats 2000000 in
theorem Same_ct : ∀ t : Tr, ∀ (u : Tr) (h : Heap) (vs us : List Value) (d d' : Nat), IsE h vs t → IsE h us u → okT d t → okT d' u → Fn0 T F.ref04_Same [.agg vs.toArray, .agg us.toArray] h fun v h' => v = .bool (sameB t u) := by
  refine tree_ind fun t ih => ?_
  intro u h vs us d d' w w' ht hu
  obtain ⟨op, arg, neg, l, m, name, ks⟩ := t
  obtain ⟨op1, arg1, neg1, l1, m1, name1, ks1⟩ := u
  obtain ⟨a, b, s, rfl, ho, ha, hv, hb, hk⟩ := w.isK
  obtain ⟨a1, b1, s1, rfl, ho1, ha1, hv1, hb1, hk1⟩ := w'.isK
  rw [okT] at ht hu
  obtain ⟨-, hn, hoks⟩ := ht
  obtain ⟨-, hn1, hoks1⟩ := hu
  have c1 := fun h hv hv1 => RSame_ct h neg a b l m neg1 a1 b1 l1 m1 hv hv1 (node_sz hn) (node_sz hn1)
  have hks : ks.length ≤ 3 := by
    have h1 := hn.1
    have h2 := kidsN_le op
    omega
  have hkl := hk.len
  have hkl1 := hk1.len
  have f0 : ¬ (op = op1 ∧ arg = arg1 ∧ name = name1 ∧ ratOf neg l m = ratOf neg1 l1 m1) → sameB (.mk op arg neg l m name ks) (.mk op1 arg1 neg1 l1 m1 name1 ks1) = false := fun x => by rw [sameB, decide_eq_false x, Bool.false_and]
  have g1 := fun (x : ¬ op = op1) => f0 fun y => x y.1
  have g2 := fun (x : ¬ arg = arg1) => f0 fun y => x y.2.1
  have g3 := fun (x : ¬ name = name1) => f0 fun y => x y.2.2.1
  have g4 := fun (x : ¬ ratOf neg l m = ratOf neg1 l1 m1) => f0 fun y => x y.2.2.2
  have f2 : ¬ ks.length = ks1.length → sameB (.mk op arg neg l m name ks) (.mk op1 arg1 neg1 l1 m1 name1 ks1) = false := fun x => by
    rw [sameB, Bool.and_eq_false_iff]; right
    cases e : sameBs ks ks1 with
    | false => rfl
    | true => exact absurd (sameBs_len e) x
  have f3 : ∀ (j : Nat) t u, ks[j]? = some t → ks1[j]? = some u → sameB t u = false → sameB (.mk op arg neg l m name ks) (.mk op1 arg1 neg1 l1 m1 name1 ks1) = false := fun j t u a b c => by rw [sameB, sameBs_not a b c, Bool.and_false]
  have f4 : op = op1 → arg = arg1 → name = name1 → ratOf neg l m = ratOf neg1 l1 m1 → ks.length = ks1.length → (∀ (j : Nat) t u, ks[j]? = some t → ks1[j]? = some u → sameB t u = true) → sameB (.mk op arg neg l m name ks) (.mk op1 arg1 neg1 l1 m1 name1 ks1) = true := fun a b c d e f => by
    rw [sameB, decide_eq_true ⟨a, b, c, d⟩, sameBs_all e f]; rfl
  obtain ⟨R, hR⟩ : ∃ R, R = sameB (.mk op arg neg l m name ks) (.mk op1 arg1 neg1 l1 m1 name1 ks1) := ⟨_, rfl⟩
  rw [← hR] at g1 g2 g3 g4 f2 f3 f4 ⊢
  clear f0 hR
  obtain ⟨q, hq⟩ : ∃ q, q = ratOf neg l m := ⟨_, rfl⟩
  obtain ⟨q1, hq1⟩ : ∃ q, q = ratOf neg1 l1 m1 := ⟨_, rfl⟩
  rw [← hq, ← hq1] at c1 g4 f4
  refine fn0_of_codeI ok D.ref04_Same rfl ?_
  conv => whnf
  repeat ((first | refine opsI.step ?_ | refine codeI.step ?_); conv => whnf)
  repeat' first | (show LdN _ _ _ _ _; first | (refine LdN.ownAt 0 rfl rfl ?_; conv => whnf) | (refine LdN.ownAt 1 rfl rfl ?_; conv => whnf)) | (show cnd _ _ _; first | (refine cnd_txt hb hb1 (fun _ => ?_) (fun _ => ?_) <;> (conv => whnf)) | (refine cnd_eq (fun _ => ?_) (fun _ => ?_) <;> first | (exfalso; omega) | (conv => whnf)) | (refine cnd_not ?_) | (refine cnd_dec (fun _ => ?_) (fun _ => ?_) <;> first | (exfalso; omega) | (conv => whnf))) | (show CallN _ _ _ _ _ _; first | (refine CallN.fn rfl (c1 _ (by assumption) (by assumption)) (fun v h' hl hr => ?_); subst hr; conv => whnf)) | ((first | refine opsI.step ?_ | refine codeI.step ?_); conv => whnf) | (intro (_ : Nat); conv => whnf) | (show Ld _ _ _ _; first | (refine Ld.own 0 rfl rfl ?_; conv => whnf) | (refine Ld.own 1 rfl rfl ?_; conv => whnf))
  all_goals try first
    | (refine RetN.all ?_; rw [g1 (by assumption)]; done)
    | (refine RetN.all ?_; rw [g2 (by assumption)]; done)
    | (refine RetN.all ?_; rw [g3 (by assumption)]; done)
    | (refine RetN.all ?_; rw [g4 (by assumption)]; done)
    | (refine RetN.all ?_; rw [f2 (by omega)]; done)
  rename_i be bf o1 o2 o3 o4 o5
  replace f4 := f4 (by assumption) (by assumption) (by assumption) (by assumption) (by omega)
  have hle0 : h.le h' := by assumption
  have hkk : ks.length = ks1.length := by omega
  clear g1 g2 g3 g4 f2 c1
  refine LoopN.of (fun r ρ hx L => ∃ j : Nat, r = ks.length - j ∧ h.le hx ∧ j ≤ ks.length ∧ rd ρ 5 = .int .i64 j ∧
      L = [(bf, .cells [.int .i64 op1, .int .i64 arg1, .bool neg1, a1.val, b1.val, .string (txt name1), s1.val].toArray Ty.api_Expr (0, 0)), (be, .cells [.int .i64 op, .int .i64 arg, .bool neg, a.val, b.val, .string (txt name), s.val].toArray Ty.api_Expr (0, 0))] ∧
      Hq (∀ (i : Nat) t u, i < j → ks[i]? = some t → ks1[i]? = some u → sameB t u = true)) ks.length
    ⟨0, rfl, hle0, Nat.zero_le _, rfl, rfl, ⟨fun i t u x => absurd x (Nat.not_lt_zero _)⟩⟩ ?_
  conv => whnf
  repeat intro _
  rename_i r hx L2 hI
  obtain ⟨j, rfl, hle, hj, e5, rfl, hq⟩ := hI
  conv at e5 => lhs; whnf
  subst e5
  by_cases hjl : j = ks.length
  · subst hjl
    rw [f4 fun j t u x y => hq.out j t u (List.getElem?_eq_some_iff.1 x).1 x y]
    conv => whnf
    repeat ((first | refine opsI.step ?_ | refine codeI.step ?_); conv => whnf)
    repeat' first | ((first | refine opsI.step ?_ | refine codeI.step ?_); conv => whnf) | (refine cnd_lt (fun _ => ?_) (fun _ => ?_) <;> first | (exfalso; omega) | (conv => whnf)) | (refine Ld.own 1 rfl rfl ?_; conv => whnf)
    exact RetN.all rfl
  · obtain ⟨t, ht⟩ : ∃ t, ks[j]? = some t := ⟨_, List.getElem?_eq_getElem (by omega)⟩
    obtain ⟨u, hu⟩ : ∃ t, ks1[j]? = some t := ⟨_, List.getElem?_eq_getElem (by omega)⟩
    have c2 := fun h vs us w w' => ih t (szT_kid ht) u h vs us (d + 1) (d' + 1) w w' (okTs_get hoks ht) (okTs_get hoks1 hu)
    have f3 := f3 j t u ht hu
    obtain ⟨C, hC⟩ : ∃ C, C = sameB t u := ⟨_, rfl⟩
    rw [← hC] at c2 f3
    have hkx := hk.mono hle
    have hkx1 := hk1.mono hle
    conv => whnf
    repeat ((first | refine opsI.step ?_ | refine codeI.step ?_); conv => whnf)
    repeat' first | (show Idx _ _ _ _ _; first | (refine Idx.kid hkx j t (by omega) ht (fun ad op2 arg2 neg2 a2 b2 name2 s2 hE hld => ?_); conv => whnf) | (refine Idx.kid hkx1 j u (by omega) hu (fun ad3 op3 arg3 neg3 a3 b3 name3 s3 hE3 hld3 => ?_); conv => whnf)) | (refine hld _ _ _ (Heap.le_refl _) ?_; conv => whnf) | (refine hld3 _ _ _ (Heap.le_refl _) ?_; conv => whnf) | ((first | refine opsI.step ?_ | refine codeI.step ?_); conv => whnf) | (refine ⟨fun _ => HasLe.of_le (by assumption), ?_⟩; conv => whnf) | (show CallN _ _ _ _ _ _; first | (refine CallN.fn rfl (c2 _ _ _ (by assumption) (by assumption)) (fun v h' hl2 hr => ?_); subst hr; conv => whnf)) | (refine WrapN.i64 (by omega) (by omega) ?_; conv => whnf) | (show cnd _ _ _; first | (refine cnd_lt (fun _ => ?_) (fun _ => ?_) <;> first | (exfalso; omega) | (conv => whnf)) | (refine cnd_not ?_) | (refine cnd_bool (fun hb => ?_) (fun hb => ?_) <;> (first | cases hb | subst hb) <;> (conv => whnf))) | (show Ld _ _ _ _; first | (refine Ld.own 0 rfl rfl ?_; conv => whnf) | (refine Ld.own 1 rfl rfl ?_; conv => whnf)) | (refine DrawN.run (by decide +kernel) ?_; conv => whnf)
    · exact ⟨rfl, ks.length - (j + 1), by omega, j + 1, rfl, (by (iterate 30 (try first | assumption | refine Heap.le_trans ?_ (by assumption))); first | done | assumption), by omega, vi (by omega), rfl, ⟨fun i t' u' x y z => by
        rcases Nat.lt_succ_iff_lt_or_eq.1 x with x | rfl
        · exact hq.out i t' u' x y z
        · rw [ht] at y; rw [hu] at z; cases y; cases z; rw [← hC]⟩⟩
    · rw [f3 rfl]; exact RetN.all rfl
def EqC (ks ks1 : List Tr) : Prop := ∀ (j : Nat) t u, ks[j]? = some t → ks1[j]? = some u → ∀ h vs us, Tb h → IsE h vs t → IsE h us u → Fn0 T F.expr_equal [.agg vs.toArray, .agg us.toArray] h fun v h' => v = .bool (sameB t u)
def eqX (t u : Tr) : Bool × Int := if ValT t ∧ ValT u then (sameB t u, 0) else (false, 40)
theorem eq_self (x : Int) : eq x x = true := by rw [eq_dec, dec_true rfl]
attribute [local irreducible] Vc.Fn
end Go.Proofs.YtchcjbbnkcodjaaGreatDoor