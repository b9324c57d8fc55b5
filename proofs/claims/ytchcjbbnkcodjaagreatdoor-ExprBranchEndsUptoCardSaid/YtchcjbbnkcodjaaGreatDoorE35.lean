/- Nodes replaced: the program's replaced, Swap; the document's subst, Swap; the law. -/
import Derived.Test.YtchcjbbnkcodjaaGreatDoorE34
set_option linter.unusedVariables false
set_option linter.unusedSimpArgs false
namespace Go.Vc
open Go Go.Dig
end Go.Vc
namespace Go.Proofs.YtchcjbbnkcodjaaGreatDoor
open Go Go.Vc Go.Dig
def ByC (fb : FuncId) (cap : List Value) (g : Tr → Option Tr) (h0 : Heap) : Prop :=
  ∀ (u : Tr) (d : Nat) (h : Heap) (vs : List Value), okT d u → h0.le h → IsE h vs u → Fn0 T fb (.agg vs.toArray :: cap) h fun v h' => ∃ a b x, v = .tuple #[a, .bool b] ∧ VE h' a x ∧ (b = true → g u = some x) ∧ (b = false → g u = none)
set_option maxRecDepth 20000 in
set_option maxHeartbeats 1000000 in
theorem nothing_ct (h : Heap) (vs : List Value) (w : IsE h vs zeroT) : Fn0 T F.law04_nothing [.agg vs.toArray] h fun v h' => v = .bool true := by
  unfold zeroT at w
  obtain ⟨a, b, s, rfl, ho, ha, hv, hb, hk⟩ := w.isK
  have h1 := hv.num.len
  have h2 := hv.den.len
  have h3 := hk.len
  simp only [List.length_nil] at h1 h2 h3
  refine fn0_of_codeI ok D.law04_nothing rfl ?_
  conv => whnf
  repeat ((first | refine opsI.step ?_ | refine codeI.step ?_); conv => whnf)
  repeat' first | (show cnd _ _ _; first | (refine cnd_nil [] rfl rfl (fun _ => ?_) (fun hx => absurd rfl hx); conv => whnf) | (refine cnd_eq (fun _ => ?_) (fun _ => ?_) <;> first | (exfalso; omega) | (conv => whnf))) | ((first | refine opsI.step ?_ | refine codeI.step ?_); conv => whnf) | (intro (_ : Nat); conv => whnf) | (refine Ld.own 0 rfl rfl ?_; conv => whnf)
  all_goals exact RetN.all (by first | rfl | (rw [h2]; exact congrArg Value.bool (eq_self 0)))
set_option maxRecDepth 20000 in
set_option maxHeartbeats 1000000 in
theorem agrees_ct (t u : Tr) (x y : Nat) (ag : Agree (t, x) (u, y)) (h : Heap) (vs us : List Value) (w : IsE h vs t) (w' : IsE h us u) :
    Fn0 T F.law04_agrees [.agg vs.toArray, .int .i64 x, .agg us.toArray, .int .i64 y] h fun v h' => v = .bool true := by
  obtain ⟨e1, e2, e3⟩ := ag
  replace e1 : x = y := e1
  replace e2 : y ≠ 0 → t = zeroT := e2
  replace e3 : y = 0 → okT 1 t ∧ okT 1 u ∧ sameB t u = true := e3
  subst e1
  have c1 := fun h w (z : x ≠ 0) => nothing_ct h vs (e2 z ▸ w)
  have c2 := fun h w w' (z : x = 0) => (e3 z).2.2 ▸ Same_ct t u h vs us 1 1 w w' (e3 z).1 (e3 z).2.1
  clear e2 e3
  obtain ⟨⟨op, arg, neg, l, m, name, ks⟩, ht⟩ : ∃ x, x = t := ⟨_, rfl⟩
  obtain ⟨a, b, s, hvs, -⟩ := (ht.symm ▸ w : IsE h vs (.mk op arg neg l m name ks)).isK
  obtain ⟨⟨op1, arg1, neg1, l1, m1, name1, ks1⟩, hu⟩ : ∃ x, x = u := ⟨_, rfl⟩
  obtain ⟨a1, b1, s1, hus, -⟩ := (hu.symm ▸ w' : IsE h us (.mk op1 arg1 neg1 l1 m1 name1 ks1)).isK
  subst hvs hus
  refine fn0_of_codeI ok D.law04_agrees rfl ?_
  conv => whnf
  repeat ((first | refine opsI.step ?_ | refine codeI.step ?_); conv => whnf)
  repeat' first | (show CallN _ _ _ _ _ _; first | (refine CallN.fn rfl (c1 _ (by assumption) (by omega)) (fun v h' hl2 hr => ?_); subst hr; conv => whnf) | (refine CallN.fn rfl (c2 _ (by assumption) (by assumption) (by omega)) (fun v h' hl2 hr => ?_); subst hr; conv => whnf)) | ((first | refine opsI.step ?_ | refine codeI.step ?_); conv => whnf) | (intro (_ : Nat); conv => whnf) | (show cnd _ _ _; first | (refine cnd_eq (fun _ => ?_) (fun _ => ?_) <;> first | (exfalso; omega) | (conv => whnf)) | (refine cnd_not ?_)) | (show LdN _ _ _ _ _; first | (refine LdN.own 0 rfl rfl ?_; conv => whnf) | (refine LdN.own 1 rfl rfl ?_; conv => whnf))
  all_goals exact RetN.all rfl
end Go.Proofs.YtchcjbbnkcodjaaGreatDoor