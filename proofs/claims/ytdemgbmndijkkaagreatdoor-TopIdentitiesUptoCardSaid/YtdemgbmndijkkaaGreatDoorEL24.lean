/- The law: brackets with two precisions satisfy the functional equations. -/
import Derived.Test.YtdemgbmndijkkaaGreatDoorEL23
set_option linter.unusedVariables false
set_option linter.unusedSimpArgs false
namespace Go.Proofs.YtdemgbmndijkkaaGreatDoor
open Go Go.Vc Go.Dig
set_option maxRecDepth 20000 in
set_option maxHeartbeats 400000000 in
theorem Twice_law (h : Heap) (tb : Tb h) (n1 : Bool) (a1 b1 : Sl) (l1 m1 : List Nat) (n2 : Bool) (a2 b2 : Sl) (l2 m2 : List Nat) (p q : Int) (v1 : IsVal h a1 b1 l1 m1) (k1 : l1.length ≤ 1048576) (j1 : m1.length ≤ 1048576) (v2 : IsVal h a2 b2 l2 m2) (k2 : l2.length ≤ 1048576) (j2 : m2.length ≤ 1048576) :
    Fn0 T F.top_TopIdentities [.agg #[.bool n1, a1.val, b1.val, .bool n2, a2.val, b2.val, .int .i64 p, .int .i64 q]] h fun v _ => v = .bool true := by
  have ko1 := fun h w => QOf_ct h n1 a1 b1 l1 m1 w
  have ko2 := fun h w => QOf_ct h n2 a2 b2 l2 m2 w
  have sx := ratOf_srL (neg := n1) v1 k1 j1
  have sy := ratOf_srL (neg := n2) v2 k2 j2
  obtain ⟨x, hx⟩ : ∃ x, x = ratOf n1 l1 m1 := ⟨_, rfl⟩
  obtain ⟨y, hy⟩ : ∃ y, y = ratOf n2 l2 m2 := ⟨_, rfl⟩
  rw [← hx] at ko1 sx
  rw [← hy] at ko2 sy
  have sx' : Sr 8388608 x := sx.mono (by decide)
  have sy' : Sr 8388608 y := sy.mono (by decide)
  have ks : ∀ (h : Heap) (a b c d : Sl), IsQ h a b x → IsQ h c d y → _ := fun h a b c d w w' => Sum_ct h a b c d x y w w' (sx.mono (by decide)) (sy.mono (by decide))
  have kq : ∀ (h : Heap) (a b c d : Sl), IsQ h a b x → IsQ h c d y → _ := fun h a b c d w w' => Quo_ct h a b c d x y w w' (sx.mono (by decide)) (sy.mono (by decide))
  have kd : ∀ (h : Heap) (a b c d : Sl), IsQ h a b x → IsQ h c d x → _ := fun h a b c d w w' => Sum_ct h a b c d x x w w' (sx.mono (by decide)) (sx.mono (by decide))
  have ss : Sr 8388608 (x + y) := (sr_add sx sy).mono (by decide)
  have sq : Sr 8388608 (x / y) := (sr_quo sx sy (by decide)).mono (by decide)
  have sd : Sr 8388608 (x + x) := (sr_add sx sx).mono (by decide)
  obtain ⟨s, hs⟩ : ∃ s, s = x + y := ⟨_, rfl⟩
  obtain ⟨t, ht⟩ : ∃ t, t = x / y := ⟨_, rfl⟩
  obtain ⟨z, hz⟩ : ∃ z, z = x + x := ⟨_, rfl⟩
  rw [← hs] at ks ss
  rw [← ht] at kq sq
  rw [← hz] at kd sd
  clear hx hy k1 k2 j1 j2
  have kE1 := fun h tb a b w => endsE h tb a b x p w sx'
  have kE2 := fun h tb a b w => endsE h tb a b y q w sy'
  have kE3 := fun h tb a b w => endsE h tb a b s q w ss
  have kL1 := fun h tb a b w => endsL h tb a b x p w sx'
  have kL2 := fun h tb a b w => endsL h tb a b y q w sy'
  have kL3 := fun h tb a b w => endsL h tb a b t p w sq
  have kS1 := fun h tb a b w => endsS h tb a b x p w sx'
  have kS2 := fun h tb a b w => endsC h tb a b x q w sx'
  have kS3 := fun h tb a b w => endsS h tb a b z q w sd
  refine fn0_of_codeI ok D.top_TopIdentities rfl ?_
  repeat' first
   | (refine codeI.seqN (a := .region 1 _ _) ?_)
   | ((first | refine opsI.step ?_ | refine codeI.step ?_); conv => whnf)
   | (refine ⟨fun _ => HasLe.of_le (Heap.le_refl _), ?_⟩; conv => whnf)
   | (refine ⟨fun _ => HasLe.of_le (by assumption), ?_⟩; conv => whnf)
   | (refine ⟨fun _ => HasLe.cons _, ?_⟩; conv => whnf)
   | (refine ⟨fun hst => (by cases (show true = false from hst)), ?_⟩; conv => whnf)
   | (intro (_ : Nat); conv => whnf)
   | (show WrapN _ _ _; first
     | (refine WrapN.i64 (by omega) (by omega) ?_; conv => whnf)
     | (refine WrapN.u64 (by omega) (by omega) ?_; conv => whnf)
     | (refine WrapN.u32 (by omega) (by omega) ?_; conv => whnf)
     | (refine WrapN.u8 (by omega) (by omega) ?_; conv => whnf))
   | (show cnd _ _ _; first
     | (refine cnd_lt (fun _ => ?_) (fun _ => ?_) <;> first | (exfalso; omega) | (conv => whnf))
     | (refine cnd_le (fun _ => ?_) (fun _ => ?_) <;> first | (exfalso; omega) | (conv => whnf))
     | (refine cnd_eq (fun _ => ?_) (fun _ => ?_) <;> first | (exfalso; omega) | (conv => whnf))
     | (refine cnd_not ?_)
     | (refine cnd_beq (fun _ => ?_) (fun hne => ?_) <;> first | exact absurd rfl hne | (conv => whnf))
     | (refine cnd_dec (fun _ => ?_) (fun _ => ?_) <;> first | (exfalso; omega) | (conv => whnf))
     | (refine cnd_bool (fun hb => ?_) (fun hb => ?_) <;> (first | cases hb | subst hb) <;> (conv => whnf))
     | (refine cnd_bool (fun _ => ?_) (fun _ => ?_) <;> (conv => whnf)))
   | (show LdN _ _ _ _ _; first
     | (refine LdN.own 0 rfl rfl ?_; conv => whnf)
     | (refine LdN.own 1 rfl rfl ?_; conv => whnf)
     | (refine LdN.own 2 rfl rfl ?_; conv => whnf)
     | (refine LdN.own 3 rfl rfl ?_; conv => whnf)
     | (refine LdN.own 4 rfl rfl ?_; conv => whnf)
     | (refine LdN.own 5 rfl rfl ?_; conv => whnf)
     | (refine LdN.own 6 rfl rfl ?_; conv => whnf)
     | (refine LdN.own 7 rfl rfl ?_; conv => whnf)
     | (refine LdN.own 8 rfl rfl ?_; conv => whnf)
     | (refine LdN.own 9 rfl rfl ?_; conv => whnf)
     | (refine LdN.own 10 rfl rfl ?_; conv => whnf)
     | (refine LdN.own 11 rfl rfl ?_; conv => whnf)
     | (refine LdN.own 12 rfl rfl ?_; conv => whnf)
     | (refine LdN.own 13 rfl rfl ?_; conv => whnf)
     | (refine LdN.own 14 rfl rfl ?_; conv => whnf)
     | (refine LdN.own 15 rfl rfl ?_; conv => whnf)
     | (refine LdN.own 16 rfl rfl ?_; conv => whnf)
     | (refine LdN.own 17 rfl rfl ?_; conv => whnf)
     | (refine LdN.own 18 rfl rfl ?_; conv => whnf)
     | (refine LdN.own 19 rfl rfl ?_; conv => whnf)
     | (refine LdN.own 20 rfl rfl ?_; conv => whnf)
     | (refine LdN.own 21 rfl rfl ?_; conv => whnf)
     | (refine LdN.own 22 rfl rfl ?_; conv => whnf)
     | (refine LdN.own 23 rfl rfl ?_; conv => whnf)
     | (refine LdN.own 24 rfl rfl ?_; conv => whnf)
     | (refine LdN.own 25 rfl rfl ?_; conv => whnf)
     | (refine LdN.own 26 rfl rfl ?_; conv => whnf)
     | (refine LdN.own 27 rfl rfl ?_; conv => whnf))
   | (show Ld _ _ _ _; first
     | (refine Ld.own 0 rfl rfl ?_; conv => whnf)
     | (refine Ld.own 1 rfl rfl ?_; conv => whnf)
     | (refine Ld.own 2 rfl rfl ?_; conv => whnf)
     | (refine Ld.own 3 rfl rfl ?_; conv => whnf)
     | (refine Ld.own 4 rfl rfl ?_; conv => whnf)
     | (refine Ld.own 5 rfl rfl ?_; conv => whnf)
     | (refine Ld.own 6 rfl rfl ?_; conv => whnf)
     | (refine Ld.own 7 rfl rfl ?_; conv => whnf)
     | (refine Ld.own 8 rfl rfl ?_; conv => whnf)
     | (refine Ld.own 9 rfl rfl ?_; conv => whnf))
   | (show Sto _ _ _ _; first
     | (refine Sto.lit 0 rfl rfl rfl ?_; conv => whnf)
     | (refine Sto.lit 1 rfl rfl rfl ?_; conv => whnf)
     | (refine Sto.lit 2 rfl rfl rfl ?_; conv => whnf)
     | (refine Sto.lit 3 rfl rfl rfl ?_; conv => whnf)
     | (refine Sto.lit 4 rfl rfl rfl ?_; conv => whnf)
     | (refine Sto.lit 5 rfl rfl rfl ?_; conv => whnf)
     | (refine Sto.lit 6 rfl rfl rfl ?_; conv => whnf)
     | (refine Sto.lit 7 rfl rfl rfl ?_; conv => whnf)
     | (refine Sto.lit 8 rfl rfl rfl ?_; conv => whnf)
     | (refine Sto.lit 9 rfl rfl rfl ?_; conv => whnf)
     | (refine Sto.lit 10 rfl rfl rfl ?_; conv => whnf))
   | (show DrawN _ _ _ _ _ _; first
     | (refine DrawN.run (by decide +kernel) ?_; conv => whnf))
   | (show Both _ _; first
     | (refine Both.mk ?_ ?_ <;> (conv => whnf)))
  refine SeqN.two x y 3 4 ?_ ?_
  · conv => whnf
    repeat ((first | refine opsI.step ?_ | refine codeI.step ?_); conv => whnf)
    repeat' first
     | (show SeqN _ _ _ _ _ _ _; first
       | (refine SeqN.go ?_; conv => whnf))
     | (show DrawN _ _ _ _ _ _; first
       | (refine DrawN.run (by decide +kernel) ?_; conv => whnf)
       | (refine DrawN.run (by decide +kernel) ?_; conv => whnf))
     | (show LdN _ _ _ _ _; first
       | (refine LdN.ownAt 0 rfl rfl ?_; conv => whnf)
       | (refine LdN.ownAt 1 rfl rfl ?_; conv => whnf)
       | (refine LdN.ownAt 2 rfl rfl ?_; conv => whnf)
       | (refine LdN.ownAt 3 rfl rfl ?_; conv => whnf)
       | (refine LdN.ownAt 4 rfl rfl ?_; conv => whnf)
       | (refine LdN.ownAt 5 rfl rfl ?_; conv => whnf)
       | (refine LdN.ownAt 6 rfl rfl ?_; conv => whnf)
       | (refine LdN.ownAt 7 rfl rfl ?_; conv => whnf)
       | (refine LdN.ownAt 8 rfl rfl ?_; conv => whnf)
       | (refine LdN.ownAt 9 rfl rfl ?_; conv => whnf)
       | (refine LdN.ownAt 10 rfl rfl ?_; conv => whnf)
       | (refine LdN.ownAt 11 rfl rfl ?_; conv => whnf)
       | (refine LdN.own 0 rfl rfl ?_; conv => whnf)
       | (refine LdN.own 1 rfl rfl ?_; conv => whnf)
       | (refine LdN.own 2 rfl rfl ?_; conv => whnf)
       | (refine LdN.own 3 rfl rfl ?_; conv => whnf)
       | (refine LdN.own 4 rfl rfl ?_; conv => whnf)
       | (refine LdN.own 5 rfl rfl ?_; conv => whnf)
       | (refine LdN.own 6 rfl rfl ?_; conv => whnf)
       | (refine LdN.own 7 rfl rfl ?_; conv => whnf)
       | (refine LdN.own 8 rfl rfl ?_; conv => whnf)
       | (refine LdN.own 9 rfl rfl ?_; conv => whnf)
       | (refine LdN.own 10 rfl rfl ?_; conv => whnf)
       | (refine LdN.own 11 rfl rfl ?_; conv => whnf)
       | (refine LdN.own 12 rfl rfl ?_; conv => whnf)
       | (refine LdN.own 13 rfl rfl ?_; conv => whnf)
       | (refine LdN.own 14 rfl rfl ?_; conv => whnf)
       | (refine LdN.own 15 rfl rfl ?_; conv => whnf)
       | (refine LdN.own 16 rfl rfl ?_; conv => whnf)
       | (refine LdN.own 17 rfl rfl ?_; conv => whnf)
       | (refine LdN.own 18 rfl rfl ?_; conv => whnf)
       | (refine LdN.own 19 rfl rfl ?_; conv => whnf)
       | (refine LdN.own 20 rfl rfl ?_; conv => whnf)
       | (refine LdN.own 21 rfl rfl ?_; conv => whnf)
       | (refine LdN.own 22 rfl rfl ?_; conv => whnf)
       | (refine LdN.own 23 rfl rfl ?_; conv => whnf)
       | (refine LdN.own 24 rfl rfl ?_; conv => whnf)
       | (refine LdN.own 25 rfl rfl ?_; conv => whnf)
       | (refine LdN.own 26 rfl rfl ?_; conv => whnf)
       | (refine LdN.own 27 rfl rfl ?_; conv => whnf))
     | (show CallN _ _ _ _ _ _; first
       | (refine CallN.fn rfl (ko1 _ (by (iterate 30 (try first | assumption | refine IsNat.mono ?_ (by assumption) | refine IsRef.mono ?_ (by assumption) | refine Ws.mono ?_ (by assumption) | refine Tb.mono ?_ (by assumption) | refine IsFr.mono ?_ (by assumption) | refine IsQ.mono ?_ (by assumption) | refine IsRat.mono ?_ (by assumption) | refine IsVal.mono ?_ (by assumption) | refine IsTxt.mono ?_ (by assumption) | refine IsNum.mono ?_ (by assumption) | refine IsP.mono ?_ (by assumption) | refine Whs.mono ?_ (by assumption) | refine Toks.mono ?_ (by assumption) | refine IsE.mono ?_ (by assumption) | refine KC.mono ?_ (by assumption) | refine IsK.mono ?_ (by assumption) | refine Nz.mono ?_ (by assumption))); first | done | assumption)) (fun v h5 lh5 hr => ?_); obtain ⟨c1, d1, rfl, w1⟩ := hr; conv => whnf)
       | (refine CallN.fn rfl (ko2 _ (by (iterate 30 (try first | assumption | refine IsNat.mono ?_ (by assumption) | refine IsRef.mono ?_ (by assumption) | refine Ws.mono ?_ (by assumption) | refine Tb.mono ?_ (by assumption) | refine IsFr.mono ?_ (by assumption) | refine IsQ.mono ?_ (by assumption) | refine IsRat.mono ?_ (by assumption) | refine IsVal.mono ?_ (by assumption) | refine IsTxt.mono ?_ (by assumption) | refine IsNum.mono ?_ (by assumption) | refine IsP.mono ?_ (by assumption) | refine Whs.mono ?_ (by assumption) | refine Toks.mono ?_ (by assumption) | refine IsE.mono ?_ (by assumption) | refine KC.mono ?_ (by assumption) | refine IsK.mono ?_ (by assumption) | refine Nz.mono ?_ (by assumption))); first | done | assumption)) (fun v h6 lh6 hr => ?_); obtain ⟨c2, d2, rfl, w2⟩ := hr; conv => whnf))
     | ((first | refine opsI.step ?_ | refine codeI.step ?_); conv => whnf)
     | (refine ⟨fun _ => HasLe.of_le (Heap.le_refl _), ?_⟩; conv => whnf)
     | (refine ⟨fun _ => HasLe.of_le (by assumption), ?_⟩; conv => whnf)
     | (refine ⟨fun _ => HasLe.cons _, ?_⟩; conv => whnf)
     | (refine ⟨fun hst => (by cases (show true = false from hst)), ?_⟩; conv => whnf)
     | (intro (_ : Nat); conv => whnf)
     | (show WrapN _ _ _; first
       | (refine WrapN.i64 (by omega) (by omega) ?_; conv => whnf)
       | (refine WrapN.u64 (by omega) (by omega) ?_; conv => whnf)
       | (refine WrapN.u32 (by omega) (by omega) ?_; conv => whnf)
       | (refine WrapN.u8 (by omega) (by omega) ?_; conv => whnf))
     | (show cnd _ _ _; first
       | (refine cnd_lt (fun _ => ?_) (fun _ => ?_) <;> first | (exfalso; omega) | (conv => whnf))
       | (refine cnd_le (fun _ => ?_) (fun _ => ?_) <;> first | (exfalso; omega) | (conv => whnf))
       | (refine cnd_eq (fun _ => ?_) (fun _ => ?_) <;> first | (exfalso; omega) | (conv => whnf))
       | (refine cnd_not ?_)
       | (refine cnd_beq (fun _ => ?_) (fun hne => ?_) <;> first | exact absurd rfl hne | (conv => whnf))
       | (refine cnd_dec (fun _ => ?_) (fun _ => ?_) <;> first | (exfalso; omega) | (conv => whnf))
       | (refine cnd_bool (fun hb => ?_) (fun hb => ?_) <;> (first | cases hb | subst hb) <;> (conv => whnf))
       | (refine cnd_bool (fun _ => ?_) (fun _ => ?_) <;> (conv => whnf)))
     | (show Ld _ _ _ _; first
       | (refine Ld.own 0 rfl rfl ?_; conv => whnf)
       | (refine Ld.own 1 rfl rfl ?_; conv => whnf)
       | (refine Ld.own 2 rfl rfl ?_; conv => whnf)
       | (refine Ld.own 3 rfl rfl ?_; conv => whnf)
       | (refine Ld.own 4 rfl rfl ?_; conv => whnf)
       | (refine Ld.own 5 rfl rfl ?_; conv => whnf)
       | (refine Ld.own 6 rfl rfl ?_; conv => whnf)
       | (refine Ld.own 7 rfl rfl ?_; conv => whnf)
       | (refine Ld.own 8 rfl rfl ?_; conv => whnf)
       | (refine Ld.own 9 rfl rfl ?_; conv => whnf))
     | (show Sto _ _ _ _; first
       | (refine Sto.lit 0 rfl rfl rfl ?_; conv => whnf)
       | (refine Sto.lit 1 rfl rfl rfl ?_; conv => whnf)
       | (refine Sto.lit 2 rfl rfl rfl ?_; conv => whnf)
       | (refine Sto.lit 3 rfl rfl rfl ?_; conv => whnf)
       | (refine Sto.lit 4 rfl rfl rfl ?_; conv => whnf)
       | (refine Sto.lit 5 rfl rfl rfl ?_; conv => whnf)
       | (refine Sto.lit 6 rfl rfl rfl ?_; conv => whnf)
       | (refine Sto.lit 7 rfl rfl rfl ?_; conv => whnf)
       | (refine Sto.lit 8 rfl rfl rfl ?_; conv => whnf)
       | (refine Sto.lit 9 rfl rfl rfl ?_; conv => whnf)
       | (refine Sto.lit 10 rfl rfl rfl ?_; conv => whnf))
     | (show Both _ _; first
       | (refine Both.mk ?_ ?_ <;> (conv => whnf)))
    all_goals first
      | exact ⟨rfl, _, _, _, _, _, _, rfl, rfl, (by (iterate 30 (try first | assumption | exact Heap.le_refl _ | refine Heap.le_trans ?_ (by assumption))); first | done | assumption), (by (iterate 30 (try first | assumption | refine IsNat.mono ?_ (by assumption) | refine IsRef.mono ?_ (by assumption) | refine Ws.mono ?_ (by assumption) | refine Tb.mono ?_ (by assumption) | refine IsFr.mono ?_ (by assumption) | refine IsQ.mono ?_ (by assumption) | refine IsRat.mono ?_ (by assumption) | refine IsVal.mono ?_ (by assumption) | refine IsTxt.mono ?_ (by assumption) | refine IsNum.mono ?_ (by assumption) | refine IsP.mono ?_ (by assumption) | refine Whs.mono ?_ (by assumption) | refine Toks.mono ?_ (by assumption) | refine IsE.mono ?_ (by assumption) | refine KC.mono ?_ (by assumption) | refine IsK.mono ?_ (by assumption) | refine Nz.mono ?_ (by assumption))); first | done | assumption), (by (iterate 30 (try first | assumption | refine IsNat.mono ?_ (by assumption) | refine IsRef.mono ?_ (by assumption) | refine Ws.mono ?_ (by assumption) | refine Tb.mono ?_ (by assumption) | refine IsFr.mono ?_ (by assumption) | refine IsQ.mono ?_ (by assumption) | refine IsRat.mono ?_ (by assumption) | refine IsVal.mono ?_ (by assumption) | refine IsTxt.mono ?_ (by assumption) | refine IsNum.mono ?_ (by assumption) | refine IsP.mono ?_ (by assumption) | refine Whs.mono ?_ (by assumption) | refine Toks.mono ?_ (by assumption) | refine IsE.mono ?_ (by assumption) | refine KC.mono ?_ (by assumption) | refine IsK.mono ?_ (by assumption) | refine Nz.mono ?_ (by assumption))); first | done | assumption), Or.inl rfl⟩
      | exact ⟨rfl, _, _, _, _, _, _, rfl, rfl, (by (iterate 30 (try first | assumption | exact Heap.le_refl _ | refine Heap.le_trans ?_ (by assumption))); first | done | assumption), (by (iterate 30 (try first | assumption | refine IsNat.mono ?_ (by assumption) | refine IsRef.mono ?_ (by assumption) | refine Ws.mono ?_ (by assumption) | refine Tb.mono ?_ (by assumption) | refine IsFr.mono ?_ (by assumption) | refine IsQ.mono ?_ (by assumption) | refine IsRat.mono ?_ (by assumption) | refine IsVal.mono ?_ (by assumption) | refine IsTxt.mono ?_ (by assumption) | refine IsNum.mono ?_ (by assumption) | refine IsP.mono ?_ (by assumption) | refine Whs.mono ?_ (by assumption) | refine Toks.mono ?_ (by assumption) | refine IsE.mono ?_ (by assumption) | refine KC.mono ?_ (by assumption) | refine IsK.mono ?_ (by assumption) | refine Nz.mono ?_ (by assumption))); first | done | assumption), (by (iterate 30 (try first | assumption | refine IsNat.mono ?_ (by assumption) | refine IsRef.mono ?_ (by assumption) | refine Ws.mono ?_ (by assumption) | refine Tb.mono ?_ (by assumption) | refine IsFr.mono ?_ (by assumption) | refine IsQ.mono ?_ (by assumption) | refine IsRat.mono ?_ (by assumption) | refine IsVal.mono ?_ (by assumption) | refine IsTxt.mono ?_ (by assumption) | refine IsNum.mono ?_ (by assumption) | refine IsP.mono ?_ (by assumption) | refine Whs.mono ?_ (by assumption) | refine Toks.mono ?_ (by assumption) | refine IsE.mono ?_ (by assumption) | refine KC.mono ?_ (by assumption) | refine IsK.mono ?_ (by assumption) | refine Nz.mono ?_ (by assumption))); first | done | assumption), Or.inr rfl⟩
  conv => whnf
  repeat intro _
  rename_i h7 L7 hj
  obtain ⟨b3, b4, c1, d1, c2, d2, e3, e4, hle, w1, w2, eL⟩ := hj
  conv at e3 => lhs; whnf
  subst e3
  conv at e4 => lhs; whnf
  subst e4
  replace tb := tb.mono hle
  clear hle ko1 ko2 v1 v2
  rcases eL with rfl | rfl
  all_goals
    repeat' first
     | (refine codeI.seqN (a := .region 4 _ _) ?_)
     | ((first | refine opsI.step ?_ | refine codeI.step ?_); conv => whnf)
     | (refine ⟨fun _ => HasLe.of_le (Heap.le_refl _), ?_⟩; conv => whnf)
     | (refine ⟨fun _ => HasLe.of_le (by assumption), ?_⟩; conv => whnf)
     | (refine ⟨fun _ => HasLe.cons _, ?_⟩; conv => whnf)
     | (refine ⟨fun hst => (by cases (show true = false from hst)), ?_⟩; conv => whnf)
     | (intro (_ : Nat); conv => whnf)
     | (show CallN _ _ _ _ _ _; first
       | (refine CallN.fn rfl (kE1 _ (by (iterate 30 (try first | assumption | refine IsNat.mono ?_ (by assumption) | refine IsRef.mono ?_ (by assumption) | refine Ws.mono ?_ (by assumption) | refine Tb.mono ?_ (by assumption) | refine IsFr.mono ?_ (by assumption) | refine IsQ.mono ?_ (by assumption) | refine IsRat.mono ?_ (by assumption) | refine IsVal.mono ?_ (by assumption) | refine IsTxt.mono ?_ (by assumption) | refine IsNum.mono ?_ (by assumption) | refine IsP.mono ?_ (by assumption) | refine Whs.mono ?_ (by assumption) | refine Toks.mono ?_ (by assumption) | refine IsE.mono ?_ (by assumption) | refine KC.mono ?_ (by assumption) | refine IsK.mono ?_ (by assumption) | refine Nz.mono ?_ (by assumption))); first | done | assumption) _ _ (by (iterate 30 (try first | assumption | refine IsNat.mono ?_ (by assumption) | refine IsRef.mono ?_ (by assumption) | refine Ws.mono ?_ (by assumption) | refine Tb.mono ?_ (by assumption) | refine IsFr.mono ?_ (by assumption) | refine IsQ.mono ?_ (by assumption) | refine IsRat.mono ?_ (by assumption) | refine IsVal.mono ?_ (by assumption) | refine IsTxt.mono ?_ (by assumption) | refine IsNum.mono ?_ (by assumption) | refine IsP.mono ?_ (by assumption) | refine Whs.mono ?_ (by assumption) | refine Toks.mono ?_ (by assumption) | refine IsE.mono ?_ (by assumption) | refine KC.mono ?_ (by assumption) | refine IsK.mono ?_ (by assumption) | refine Nz.mono ?_ (by assumption))); first | done | assumption)) (fun v hA lhA hr => ?_); obtain ⟨a1, b1, u1, v1, x1, y1, o1, rfl, wa1, wb1, sa1, sb1, g1⟩ := hr; conv => whnf)
       | (refine CallN.fn rfl (kE2 _ (by (iterate 30 (try first | assumption | refine IsNat.mono ?_ (by assumption) | refine IsRef.mono ?_ (by assumption) | refine Ws.mono ?_ (by assumption) | refine Tb.mono ?_ (by assumption) | refine IsFr.mono ?_ (by assumption) | refine IsQ.mono ?_ (by assumption) | refine IsRat.mono ?_ (by assumption) | refine IsVal.mono ?_ (by assumption) | refine IsTxt.mono ?_ (by assumption) | refine IsNum.mono ?_ (by assumption) | refine IsP.mono ?_ (by assumption) | refine Whs.mono ?_ (by assumption) | refine Toks.mono ?_ (by assumption) | refine IsE.mono ?_ (by assumption) | refine KC.mono ?_ (by assumption) | refine IsK.mono ?_ (by assumption) | refine Nz.mono ?_ (by assumption))); first | done | assumption) _ _ (by (iterate 30 (try first | assumption | refine IsNat.mono ?_ (by assumption) | refine IsRef.mono ?_ (by assumption) | refine Ws.mono ?_ (by assumption) | refine Tb.mono ?_ (by assumption) | refine IsFr.mono ?_ (by assumption) | refine IsQ.mono ?_ (by assumption) | refine IsRat.mono ?_ (by assumption) | refine IsVal.mono ?_ (by assumption) | refine IsTxt.mono ?_ (by assumption) | refine IsNum.mono ?_ (by assumption) | refine IsP.mono ?_ (by assumption) | refine Whs.mono ?_ (by assumption) | refine Toks.mono ?_ (by assumption) | refine IsE.mono ?_ (by assumption) | refine KC.mono ?_ (by assumption) | refine IsK.mono ?_ (by assumption) | refine Nz.mono ?_ (by assumption))); first | done | assumption)) (fun v hB lhB hr => ?_); obtain ⟨a2, b2, u2, v2, x2, y2, o2, rfl, wa2, wb2, sa2, sb2, g2⟩ := hr; conv => whnf))
     | (show WrapN _ _ _; first
       | (refine WrapN.i64 (by omega) (by omega) ?_; conv => whnf)
       | (refine WrapN.u64 (by omega) (by omega) ?_; conv => whnf)
       | (refine WrapN.u32 (by omega) (by omega) ?_; conv => whnf)
       | (refine WrapN.u8 (by omega) (by omega) ?_; conv => whnf))
     | (show cnd _ _ _; first
       | (refine cnd_lt (fun _ => ?_) (fun _ => ?_) <;> first | (exfalso; omega) | (conv => whnf))
       | (refine cnd_le (fun _ => ?_) (fun _ => ?_) <;> first | (exfalso; omega) | (conv => whnf))
       | (refine cnd_eq (fun _ => ?_) (fun _ => ?_) <;> first | (exfalso; omega) | (conv => whnf))
       | (refine cnd_not ?_)
       | (refine cnd_beq (fun _ => ?_) (fun hne => ?_) <;> first | exact absurd rfl hne | (conv => whnf))
       | (refine cnd_dec (fun _ => ?_) (fun _ => ?_) <;> first | (exfalso; omega) | (conv => whnf))
       | (refine cnd_bool (fun hb => ?_) (fun hb => ?_) <;> (first | cases hb | subst hb) <;> (conv => whnf))
       | (refine cnd_bool (fun _ => ?_) (fun _ => ?_) <;> (conv => whnf)))
     | (show LdN _ _ _ _ _; first
       | (refine LdN.own 0 rfl rfl ?_; conv => whnf)
       | (refine LdN.own 1 rfl rfl ?_; conv => whnf)
       | (refine LdN.own 2 rfl rfl ?_; conv => whnf)
       | (refine LdN.own 3 rfl rfl ?_; conv => whnf)
       | (refine LdN.own 4 rfl rfl ?_; conv => whnf)
       | (refine LdN.own 5 rfl rfl ?_; conv => whnf)
       | (refine LdN.own 6 rfl rfl ?_; conv => whnf)
       | (refine LdN.own 7 rfl rfl ?_; conv => whnf)
       | (refine LdN.own 8 rfl rfl ?_; conv => whnf)
       | (refine LdN.own 9 rfl rfl ?_; conv => whnf)
       | (refine LdN.own 10 rfl rfl ?_; conv => whnf)
       | (refine LdN.own 11 rfl rfl ?_; conv => whnf)
       | (refine LdN.own 12 rfl rfl ?_; conv => whnf)
       | (refine LdN.own 13 rfl rfl ?_; conv => whnf)
       | (refine LdN.own 14 rfl rfl ?_; conv => whnf)
       | (refine LdN.own 15 rfl rfl ?_; conv => whnf)
       | (refine LdN.own 16 rfl rfl ?_; conv => whnf)
       | (refine LdN.own 17 rfl rfl ?_; conv => whnf)
       | (refine LdN.own 18 rfl rfl ?_; conv => whnf)
       | (refine LdN.own 19 rfl rfl ?_; conv => whnf)
       | (refine LdN.own 20 rfl rfl ?_; conv => whnf)
       | (refine LdN.own 21 rfl rfl ?_; conv => whnf)
       | (refine LdN.own 22 rfl rfl ?_; conv => whnf)
       | (refine LdN.own 23 rfl rfl ?_; conv => whnf)
       | (refine LdN.own 24 rfl rfl ?_; conv => whnf)
       | (refine LdN.own 25 rfl rfl ?_; conv => whnf)
       | (refine LdN.own 26 rfl rfl ?_; conv => whnf)
       | (refine LdN.own 27 rfl rfl ?_; conv => whnf))
     | (show Ld _ _ _ _; first
       | (refine Ld.own 0 rfl rfl ?_; conv => whnf)
       | (refine Ld.own 1 rfl rfl ?_; conv => whnf)
       | (refine Ld.own 2 rfl rfl ?_; conv => whnf)
       | (refine Ld.own 3 rfl rfl ?_; conv => whnf)
       | (refine Ld.own 4 rfl rfl ?_; conv => whnf)
       | (refine Ld.own 5 rfl rfl ?_; conv => whnf)
       | (refine Ld.own 6 rfl rfl ?_; conv => whnf)
       | (refine Ld.own 7 rfl rfl ?_; conv => whnf)
       | (refine Ld.own 8 rfl rfl ?_; conv => whnf)
       | (refine Ld.own 9 rfl rfl ?_; conv => whnf))
     | (show Sto _ _ _ _; first
       | (refine Sto.lit 0 rfl rfl rfl ?_; conv => whnf)
       | (refine Sto.lit 1 rfl rfl rfl ?_; conv => whnf)
       | (refine Sto.lit 2 rfl rfl rfl ?_; conv => whnf)
       | (refine Sto.lit 3 rfl rfl rfl ?_; conv => whnf)
       | (refine Sto.lit 4 rfl rfl rfl ?_; conv => whnf)
       | (refine Sto.lit 5 rfl rfl rfl ?_; conv => whnf)
       | (refine Sto.lit 6 rfl rfl rfl ?_; conv => whnf)
       | (refine Sto.lit 7 rfl rfl rfl ?_; conv => whnf)
       | (refine Sto.lit 8 rfl rfl rfl ?_; conv => whnf)
       | (refine Sto.lit 9 rfl rfl rfl ?_; conv => whnf)
       | (refine Sto.lit 10 rfl rfl rfl ?_; conv => whnf))
     | (show DrawN _ _ _ _ _ _; first
       | (refine DrawN.run (by decide +kernel) ?_; conv => whnf))
     | (show Both _ _; first
       | (refine Both.mk ?_ ?_ <;> (conv => whnf)))
    refine SeqN.four (An.ExpB s) 11 12 13 ?_ ?_
    · conv => whnf
      repeat ((first | refine opsI.step ?_ | refine codeI.step ?_); conv => whnf)
      repeat' first
       | (show SeqN _ _ _ _ _ _ _; first
         | (refine SeqN.go ?_; conv => whnf))
       | (show DrawN _ _ _ _ _ _; first
         | (refine DrawN.run (by decide +kernel) ?_; conv => whnf)
         | (refine DrawN.run (by decide +kernel) ?_; conv => whnf))
       | (show CallN _ _ _ _ _ _; first
         | (refine CallN.fn rfl (ks _ _ _ _ _ (by (iterate 30 (try first | assumption | refine IsNat.mono ?_ (by assumption) | refine IsRef.mono ?_ (by assumption) | refine Ws.mono ?_ (by assumption) | refine Tb.mono ?_ (by assumption) | refine IsFr.mono ?_ (by assumption) | refine IsQ.mono ?_ (by assumption) | refine IsRat.mono ?_ (by assumption) | refine IsVal.mono ?_ (by assumption) | refine IsTxt.mono ?_ (by assumption) | refine IsNum.mono ?_ (by assumption) | refine IsP.mono ?_ (by assumption) | refine Whs.mono ?_ (by assumption) | refine Toks.mono ?_ (by assumption) | refine IsE.mono ?_ (by assumption) | refine KC.mono ?_ (by assumption) | refine IsK.mono ?_ (by assumption) | refine Nz.mono ?_ (by assumption))); first | done | assumption) (by (iterate 30 (try first | assumption | refine IsNat.mono ?_ (by assumption) | refine IsRef.mono ?_ (by assumption) | refine Ws.mono ?_ (by assumption) | refine Tb.mono ?_ (by assumption) | refine IsFr.mono ?_ (by assumption) | refine IsQ.mono ?_ (by assumption) | refine IsRat.mono ?_ (by assumption) | refine IsVal.mono ?_ (by assumption) | refine IsTxt.mono ?_ (by assumption) | refine IsNum.mono ?_ (by assumption) | refine IsP.mono ?_ (by assumption) | refine Whs.mono ?_ (by assumption) | refine Toks.mono ?_ (by assumption) | refine IsE.mono ?_ (by assumption) | refine KC.mono ?_ (by assumption) | refine IsK.mono ?_ (by assumption) | refine Nz.mono ?_ (by assumption))); first | done | assumption)) (fun v hC lhC hr => ?_); obtain ⟨c3, d3, rfl, w3⟩ := hr; conv => whnf)
         | (refine CallN.fn rfl (kE3 _ (by (iterate 30 (try first | assumption | refine IsNat.mono ?_ (by assumption) | refine IsRef.mono ?_ (by assumption) | refine Ws.mono ?_ (by assumption) | refine Tb.mono ?_ (by assumption) | refine IsFr.mono ?_ (by assumption) | refine IsQ.mono ?_ (by assumption) | refine IsRat.mono ?_ (by assumption) | refine IsVal.mono ?_ (by assumption) | refine IsTxt.mono ?_ (by assumption) | refine IsNum.mono ?_ (by assumption) | refine IsP.mono ?_ (by assumption) | refine Whs.mono ?_ (by assumption) | refine Toks.mono ?_ (by assumption) | refine IsE.mono ?_ (by assumption) | refine KC.mono ?_ (by assumption) | refine IsK.mono ?_ (by assumption) | refine Nz.mono ?_ (by assumption))); first | done | assumption) _ _ (by (iterate 30 (try first | assumption | refine IsNat.mono ?_ (by assumption) | refine IsRef.mono ?_ (by assumption) | refine Ws.mono ?_ (by assumption) | refine Tb.mono ?_ (by assumption) | refine IsFr.mono ?_ (by assumption) | refine IsQ.mono ?_ (by assumption) | refine IsRat.mono ?_ (by assumption) | refine IsVal.mono ?_ (by assumption) | refine IsTxt.mono ?_ (by assumption) | refine IsNum.mono ?_ (by assumption) | refine IsP.mono ?_ (by assumption) | refine Whs.mono ?_ (by assumption) | refine Toks.mono ?_ (by assumption) | refine IsE.mono ?_ (by assumption) | refine KC.mono ?_ (by assumption) | refine IsK.mono ?_ (by assumption) | refine Nz.mono ?_ (by assumption))); first | done | assumption)) (fun v hD lhD hr => ?_); obtain ⟨a3, b3, u3, v3, x3, y3, o3, rfl, wa3, wb3, sa3, sb3, g3⟩ := hr; conv => whnf))
       | ((first | refine opsI.step ?_ | refine codeI.step ?_); conv => whnf)
       | (refine ⟨fun _ => HasLe.of_le (Heap.le_refl _), ?_⟩; conv => whnf)
       | (refine ⟨fun _ => HasLe.of_le (by assumption), ?_⟩; conv => whnf)
       | (refine ⟨fun _ => HasLe.cons _, ?_⟩; conv => whnf)
       | (refine ⟨fun hst => (by cases (show true = false from hst)), ?_⟩; conv => whnf)
       | (intro (_ : Nat); conv => whnf)
       | (show WrapN _ _ _; first
         | (refine WrapN.i64 (by omega) (by omega) ?_; conv => whnf)
         | (refine WrapN.u64 (by omega) (by omega) ?_; conv => whnf)
         | (refine WrapN.u32 (by omega) (by omega) ?_; conv => whnf)
         | (refine WrapN.u8 (by omega) (by omega) ?_; conv => whnf))
       | (show cnd _ _ _; first
         | (refine cnd_lt (fun _ => ?_) (fun _ => ?_) <;> first | (exfalso; omega) | (conv => whnf))
         | (refine cnd_le (fun _ => ?_) (fun _ => ?_) <;> first | (exfalso; omega) | (conv => whnf))
         | (refine cnd_eq (fun _ => ?_) (fun _ => ?_) <;> first | (exfalso; omega) | (conv => whnf))
         | (refine cnd_not ?_)
         | (refine cnd_beq (fun _ => ?_) (fun hne => ?_) <;> first | exact absurd rfl hne | (conv => whnf))
         | (refine cnd_dec (fun _ => ?_) (fun _ => ?_) <;> first | (exfalso; omega) | (conv => whnf))
         | (refine cnd_bool (fun hb => ?_) (fun hb => ?_) <;> (first | cases hb | subst hb) <;> (conv => whnf))
         | (refine cnd_bool (fun _ => ?_) (fun _ => ?_) <;> (conv => whnf)))
       | (show LdN _ _ _ _ _; first
         | (refine LdN.own 0 rfl rfl ?_; conv => whnf)
         | (refine LdN.own 1 rfl rfl ?_; conv => whnf)
         | (refine LdN.own 2 rfl rfl ?_; conv => whnf)
         | (refine LdN.own 3 rfl rfl ?_; conv => whnf)
         | (refine LdN.own 4 rfl rfl ?_; conv => whnf)
         | (refine LdN.own 5 rfl rfl ?_; conv => whnf)
         | (refine LdN.own 6 rfl rfl ?_; conv => whnf)
         | (refine LdN.own 7 rfl rfl ?_; conv => whnf)
         | (refine LdN.own 8 rfl rfl ?_; conv => whnf)
         | (refine LdN.own 9 rfl rfl ?_; conv => whnf)
         | (refine LdN.own 10 rfl rfl ?_; conv => whnf)
         | (refine LdN.own 11 rfl rfl ?_; conv => whnf)
         | (refine LdN.own 12 rfl rfl ?_; conv => whnf)
         | (refine LdN.own 13 rfl rfl ?_; conv => whnf)
         | (refine LdN.own 14 rfl rfl ?_; conv => whnf)
         | (refine LdN.own 15 rfl rfl ?_; conv => whnf)
         | (refine LdN.own 16 rfl rfl ?_; conv => whnf)
         | (refine LdN.own 17 rfl rfl ?_; conv => whnf)
         | (refine LdN.own 18 rfl rfl ?_; conv => whnf)
         | (refine LdN.own 19 rfl rfl ?_; conv => whnf)
         | (refine LdN.own 20 rfl rfl ?_; conv => whnf)
         | (refine LdN.own 21 rfl rfl ?_; conv => whnf)
         | (refine LdN.own 22 rfl rfl ?_; conv => whnf)
         | (refine LdN.own 23 rfl rfl ?_; conv => whnf)
         | (refine LdN.own 24 rfl rfl ?_; conv => whnf)
         | (refine LdN.own 25 rfl rfl ?_; conv => whnf)
         | (refine LdN.own 26 rfl rfl ?_; conv => whnf)
         | (refine LdN.own 27 rfl rfl ?_; conv => whnf))
       | (show Ld _ _ _ _; first
         | (refine Ld.own 0 rfl rfl ?_; conv => whnf)
         | (refine Ld.own 1 rfl rfl ?_; conv => whnf)
         | (refine Ld.own 2 rfl rfl ?_; conv => whnf)
         | (refine Ld.own 3 rfl rfl ?_; conv => whnf)
         | (refine Ld.own 4 rfl rfl ?_; conv => whnf)
         | (refine Ld.own 5 rfl rfl ?_; conv => whnf)
         | (refine Ld.own 6 rfl rfl ?_; conv => whnf)
         | (refine Ld.own 7 rfl rfl ?_; conv => whnf)
         | (refine Ld.own 8 rfl rfl ?_; conv => whnf)
         | (refine Ld.own 9 rfl rfl ?_; conv => whnf))
       | (show Sto _ _ _ _; first
         | (refine Sto.lit 0 rfl rfl rfl ?_; conv => whnf)
         | (refine Sto.lit 1 rfl rfl rfl ?_; conv => whnf)
         | (refine Sto.lit 2 rfl rfl rfl ?_; conv => whnf)
         | (refine Sto.lit 3 rfl rfl rfl ?_; conv => whnf)
         | (refine Sto.lit 4 rfl rfl rfl ?_; conv => whnf)
         | (refine Sto.lit 5 rfl rfl rfl ?_; conv => whnf)
         | (refine Sto.lit 6 rfl rfl rfl ?_; conv => whnf)
         | (refine Sto.lit 7 rfl rfl rfl ?_; conv => whnf)
         | (refine Sto.lit 8 rfl rfl rfl ?_; conv => whnf)
         | (refine Sto.lit 9 rfl rfl rfl ?_; conv => whnf)
         | (refine Sto.lit 10 rfl rfl rfl ?_; conv => whnf))
       | (show Both _ _; first
         | (refine Both.mk ?_ ?_ <;> (conv => whnf)))
      all_goals first
        | exact ⟨rfl, _, _, _, _, _, _, _, _, _, rfl, rfl, rfl, (by (iterate 30 (try first | assumption | exact Heap.le_refl _ | refine Heap.le_trans ?_ (by assumption))); first | done | assumption), (by (iterate 30 (try first | assumption | refine IsNat.mono ?_ (by assumption) | refine IsRef.mono ?_ (by assumption) | refine Ws.mono ?_ (by assumption) | refine Tb.mono ?_ (by assumption) | refine IsFr.mono ?_ (by assumption) | refine IsQ.mono ?_ (by assumption) | refine IsRat.mono ?_ (by assumption) | refine IsVal.mono ?_ (by assumption) | refine IsTxt.mono ?_ (by assumption) | refine IsNum.mono ?_ (by assumption) | refine IsP.mono ?_ (by assumption) | refine Whs.mono ?_ (by assumption) | refine Toks.mono ?_ (by assumption) | refine IsE.mono ?_ (by assumption) | refine KC.mono ?_ (by assumption) | refine IsK.mono ?_ (by assumption) | refine Nz.mono ?_ (by assumption))); first | done | assumption), (by (iterate 30 (try first | assumption | refine IsNat.mono ?_ (by assumption) | refine IsRef.mono ?_ (by assumption) | refine Ws.mono ?_ (by assumption) | refine Tb.mono ?_ (by assumption) | refine IsFr.mono ?_ (by assumption) | refine IsQ.mono ?_ (by assumption) | refine IsRat.mono ?_ (by assumption) | refine IsVal.mono ?_ (by assumption) | refine IsTxt.mono ?_ (by assumption) | refine IsNum.mono ?_ (by assumption) | refine IsP.mono ?_ (by assumption) | refine Whs.mono ?_ (by assumption) | refine Toks.mono ?_ (by assumption) | refine IsE.mono ?_ (by assumption) | refine KC.mono ?_ (by assumption) | refine IsK.mono ?_ (by assumption) | refine Nz.mono ?_ (by assumption))); first | done | assumption), sa3, sb3, g3, Or.inl rfl⟩
        | exact ⟨rfl, _, _, _, _, _, _, _, _, _, rfl, rfl, rfl, (by (iterate 30 (try first | assumption | exact Heap.le_refl _ | refine Heap.le_trans ?_ (by assumption))); first | done | assumption), (by (iterate 30 (try first | assumption | refine IsNat.mono ?_ (by assumption) | refine IsRef.mono ?_ (by assumption) | refine Ws.mono ?_ (by assumption) | refine Tb.mono ?_ (by assumption) | refine IsFr.mono ?_ (by assumption) | refine IsQ.mono ?_ (by assumption) | refine IsRat.mono ?_ (by assumption) | refine IsVal.mono ?_ (by assumption) | refine IsTxt.mono ?_ (by assumption) | refine IsNum.mono ?_ (by assumption) | refine IsP.mono ?_ (by assumption) | refine Whs.mono ?_ (by assumption) | refine Toks.mono ?_ (by assumption) | refine IsE.mono ?_ (by assumption) | refine KC.mono ?_ (by assumption) | refine IsK.mono ?_ (by assumption) | refine Nz.mono ?_ (by assumption))); first | done | assumption), (by (iterate 30 (try first | assumption | refine IsNat.mono ?_ (by assumption) | refine IsRef.mono ?_ (by assumption) | refine Ws.mono ?_ (by assumption) | refine Tb.mono ?_ (by assumption) | refine IsFr.mono ?_ (by assumption) | refine IsQ.mono ?_ (by assumption) | refine IsRat.mono ?_ (by assumption) | refine IsVal.mono ?_ (by assumption) | refine IsTxt.mono ?_ (by assumption) | refine IsNum.mono ?_ (by assumption) | refine IsP.mono ?_ (by assumption) | refine Whs.mono ?_ (by assumption) | refine Toks.mono ?_ (by assumption) | refine IsE.mono ?_ (by assumption) | refine KC.mono ?_ (by assumption) | refine IsK.mono ?_ (by assumption) | refine Nz.mono ?_ (by assumption))); first | done | assumption), sa3, sb3, g3, Or.inr rfl⟩
    conv => whnf
    repeat intro _
    rename_i h8 L8 hj
    obtain ⟨b11, b12, a3, b3, u3, v3, x3, y3, o3, e11, e12, e13, hle, wa3, wb3, sa3, sb3, g3, eL⟩ := hj
    conv at e11 => lhs; whnf
    subst e11
    conv at e12 => lhs; whnf
    subst e12
    conv at e13 => lhs; whnf
    subst e13
    have tb1 := (Tb.mono (by first | exact Tb.mono (by first | exact Tb.mono tb (by assumption) | exact tb) (by assumption) | exact tb) hle : Tb h8)
    rcases eL with rfl | rfl
    all_goals
      have kp1 := fun h w w' => Prod_ct h u1 v1 u2 v2 a1 a2 w w' (sa1.mono (by decide)) (sa2.mono (by decide))
      have kp2 := fun h w w' => Prod_ct h x1 y1 x2 y2 b1 b2 w w' (sb1.mono (by decide)) (sb2.mono (by decide))
      have z1 : Sr 65536 (a1 * a2) := (sr_mul sa1 sa2).mono (by decide)
      have z2 : Sr 65536 (b1 * b2) := (sr_mul sb1 sb2).mono (by decide)
      have kc := fun (q1 : o1 = true) (q2 : o2 = true) (q3 : o3 = true) h c d c' d' w w' w3 w4 => (common_ct h c d c' d' u3 v3 x3 y3 (a1 * a2) (b1 * b2) a3 b3 w w' w3 w4 z1 z2 (sa3.mono (by decide)) (sb3.mono (by decide))).mono fun v h' _ r => (show v = .bool true from by rw [r, dec_true (An.exp_sum (g1 q1) (g2 q2) (hs ▸ g3 q3))])
      obtain ⟨m1, e1⟩ : ∃ m, m = a1 * a2 := ⟨_, rfl⟩
      obtain ⟨m2, e2⟩ : ∃ m, m = b1 * b2 := ⟨_, rfl⟩
      rw [← e1] at kp1
      rw [← e2] at kp2
      rw [← e1, ← e2] at kc
      clear e1 e2 z1 z2 kE1 kE2 kE3 ks
      repeat' first
       | (refine codeI.seqN (a := .region 5 _ _) ?_)
       | ((first | refine opsI.step ?_ | refine codeI.step ?_); conv => whnf)
       | (refine ⟨fun _ => HasLe.of_le (Heap.le_refl _), ?_⟩; conv => whnf)
       | (refine ⟨fun _ => HasLe.of_le (by assumption), ?_⟩; conv => whnf)
       | (refine ⟨fun _ => HasLe.cons _, ?_⟩; conv => whnf)
       | (refine ⟨fun hst => (by cases (show true = false from hst)), ?_⟩; conv => whnf)
       | (intro (_ : Nat); conv => whnf)
       | (show WrapN _ _ _; first
         | (refine WrapN.i64 (by omega) (by omega) ?_; conv => whnf)
         | (refine WrapN.u64 (by omega) (by omega) ?_; conv => whnf)
         | (refine WrapN.u32 (by omega) (by omega) ?_; conv => whnf)
         | (refine WrapN.u8 (by omega) (by omega) ?_; conv => whnf))
       | (show cnd _ _ _; first
         | (refine cnd_lt (fun _ => ?_) (fun _ => ?_) <;> first | (exfalso; omega) | (conv => whnf))
         | (refine cnd_le (fun _ => ?_) (fun _ => ?_) <;> first | (exfalso; omega) | (conv => whnf))
         | (refine cnd_eq (fun _ => ?_) (fun _ => ?_) <;> first | (exfalso; omega) | (conv => whnf))
         | (refine cnd_not ?_)
         | (refine cnd_beq (fun _ => ?_) (fun hne => ?_) <;> first | exact absurd rfl hne | (conv => whnf))
         | (refine cnd_dec (fun _ => ?_) (fun _ => ?_) <;> first | (exfalso; omega) | (conv => whnf))
         | (refine cnd_bool (fun hb => ?_) (fun hb => ?_) <;> (first | cases hb | subst hb) <;> (conv => whnf))
         | (refine cnd_bool (fun _ => ?_) (fun _ => ?_) <;> (conv => whnf)))
       | (show LdN _ _ _ _ _; first
         | (refine LdN.own 0 rfl rfl ?_; conv => whnf)
         | (refine LdN.own 1 rfl rfl ?_; conv => whnf)
         | (refine LdN.own 2 rfl rfl ?_; conv => whnf)
         | (refine LdN.own 3 rfl rfl ?_; conv => whnf)
         | (refine LdN.own 4 rfl rfl ?_; conv => whnf)
         | (refine LdN.own 5 rfl rfl ?_; conv => whnf)
         | (refine LdN.own 6 rfl rfl ?_; conv => whnf)
         | (refine LdN.own 7 rfl rfl ?_; conv => whnf)
         | (refine LdN.own 8 rfl rfl ?_; conv => whnf)
         | (refine LdN.own 9 rfl rfl ?_; conv => whnf)
         | (refine LdN.own 10 rfl rfl ?_; conv => whnf)
         | (refine LdN.own 11 rfl rfl ?_; conv => whnf)
         | (refine LdN.own 12 rfl rfl ?_; conv => whnf)
         | (refine LdN.own 13 rfl rfl ?_; conv => whnf)
         | (refine LdN.own 14 rfl rfl ?_; conv => whnf)
         | (refine LdN.own 15 rfl rfl ?_; conv => whnf)
         | (refine LdN.own 16 rfl rfl ?_; conv => whnf)
         | (refine LdN.own 17 rfl rfl ?_; conv => whnf)
         | (refine LdN.own 18 rfl rfl ?_; conv => whnf)
         | (refine LdN.own 19 rfl rfl ?_; conv => whnf)
         | (refine LdN.own 20 rfl rfl ?_; conv => whnf)
         | (refine LdN.own 21 rfl rfl ?_; conv => whnf)
         | (refine LdN.own 22 rfl rfl ?_; conv => whnf)
         | (refine LdN.own 23 rfl rfl ?_; conv => whnf)
         | (refine LdN.own 24 rfl rfl ?_; conv => whnf)
         | (refine LdN.own 25 rfl rfl ?_; conv => whnf)
         | (refine LdN.own 26 rfl rfl ?_; conv => whnf)
         | (refine LdN.own 27 rfl rfl ?_; conv => whnf))
       | (show Ld _ _ _ _; first
         | (refine Ld.own 0 rfl rfl ?_; conv => whnf)
         | (refine Ld.own 1 rfl rfl ?_; conv => whnf)
         | (refine Ld.own 2 rfl rfl ?_; conv => whnf)
         | (refine Ld.own 3 rfl rfl ?_; conv => whnf)
         | (refine Ld.own 4 rfl rfl ?_; conv => whnf)
         | (refine Ld.own 5 rfl rfl ?_; conv => whnf)
         | (refine Ld.own 6 rfl rfl ?_; conv => whnf)
         | (refine Ld.own 7 rfl rfl ?_; conv => whnf)
         | (refine Ld.own 8 rfl rfl ?_; conv => whnf)
         | (refine Ld.own 9 rfl rfl ?_; conv => whnf))
       | (show Sto _ _ _ _; first
         | (refine Sto.lit 0 rfl rfl rfl ?_; conv => whnf)
         | (refine Sto.lit 1 rfl rfl rfl ?_; conv => whnf)
         | (refine Sto.lit 2 rfl rfl rfl ?_; conv => whnf)
         | (refine Sto.lit 3 rfl rfl rfl ?_; conv => whnf)
         | (refine Sto.lit 4 rfl rfl rfl ?_; conv => whnf)
         | (refine Sto.lit 5 rfl rfl rfl ?_; conv => whnf)
         | (refine Sto.lit 6 rfl rfl rfl ?_; conv => whnf)
         | (refine Sto.lit 7 rfl rfl rfl ?_; conv => whnf)
         | (refine Sto.lit 8 rfl rfl rfl ?_; conv => whnf)
         | (refine Sto.lit 9 rfl rfl rfl ?_; conv => whnf)
         | (refine Sto.lit 10 rfl rfl rfl ?_; conv => whnf))
       | (show DrawN _ _ _ _ _ _; first
         | (refine DrawN.run (by decide +kernel) ?_; conv => whnf))
       | (show Both _ _; first
         | (refine Both.mk ?_ ?_ <;> (conv => whnf)))
      refine SeqN.meet 66 false ?_ ?_
      · conv => whnf
        repeat ((first | refine opsI.step ?_ | refine codeI.step ?_); conv => whnf)
        repeat' first
         | (show SeqN _ _ _ _ _ _ _; first
           | (refine SeqN.go ?_; conv => whnf))
         | (show DrawN _ _ _ _ _ _; first
           | (refine DrawN.run (by decide +kernel) ?_; conv => whnf)
           | (refine DrawN.run (by decide +kernel) ?_; conv => whnf))
         | (show CallN _ _ _ _ _ _; first
           | (refine CallN.fn rfl (kp1 _ (by (iterate 30 (try first | assumption | refine IsNat.mono ?_ (by assumption) | refine IsRef.mono ?_ (by assumption) | refine Ws.mono ?_ (by assumption) | refine Tb.mono ?_ (by assumption) | refine IsFr.mono ?_ (by assumption) | refine IsQ.mono ?_ (by assumption) | refine IsRat.mono ?_ (by assumption) | refine IsVal.mono ?_ (by assumption) | refine IsTxt.mono ?_ (by assumption) | refine IsNum.mono ?_ (by assumption) | refine IsP.mono ?_ (by assumption) | refine Whs.mono ?_ (by assumption) | refine Toks.mono ?_ (by assumption) | refine IsE.mono ?_ (by assumption) | refine KC.mono ?_ (by assumption) | refine IsK.mono ?_ (by assumption) | refine Nz.mono ?_ (by assumption))); first | done | assumption) (by (iterate 30 (try first | assumption | refine IsNat.mono ?_ (by assumption) | refine IsRef.mono ?_ (by assumption) | refine Ws.mono ?_ (by assumption) | refine Tb.mono ?_ (by assumption) | refine IsFr.mono ?_ (by assumption) | refine IsQ.mono ?_ (by assumption) | refine IsRat.mono ?_ (by assumption) | refine IsVal.mono ?_ (by assumption) | refine IsTxt.mono ?_ (by assumption) | refine IsNum.mono ?_ (by assumption) | refine IsP.mono ?_ (by assumption) | refine Whs.mono ?_ (by assumption) | refine Toks.mono ?_ (by assumption) | refine IsE.mono ?_ (by assumption) | refine KC.mono ?_ (by assumption) | refine IsK.mono ?_ (by assumption) | refine Nz.mono ?_ (by assumption))); first | done | assumption)) (fun v hP lhP hr => ?_); obtain ⟨c4, d4, rfl, w4⟩ := hr; conv => whnf)
           | (refine CallN.fn rfl (kp2 _ (by (iterate 30 (try first | assumption | refine IsNat.mono ?_ (by assumption) | refine IsRef.mono ?_ (by assumption) | refine Ws.mono ?_ (by assumption) | refine Tb.mono ?_ (by assumption) | refine IsFr.mono ?_ (by assumption) | refine IsQ.mono ?_ (by assumption) | refine IsRat.mono ?_ (by assumption) | refine IsVal.mono ?_ (by assumption) | refine IsTxt.mono ?_ (by assumption) | refine IsNum.mono ?_ (by assumption) | refine IsP.mono ?_ (by assumption) | refine Whs.mono ?_ (by assumption) | refine Toks.mono ?_ (by assumption) | refine IsE.mono ?_ (by assumption) | refine KC.mono ?_ (by assumption) | refine IsK.mono ?_ (by assumption) | refine Nz.mono ?_ (by assumption))); first | done | assumption) (by (iterate 30 (try first | assumption | refine IsNat.mono ?_ (by assumption) | refine IsRef.mono ?_ (by assumption) | refine Ws.mono ?_ (by assumption) | refine Tb.mono ?_ (by assumption) | refine IsFr.mono ?_ (by assumption) | refine IsQ.mono ?_ (by assumption) | refine IsRat.mono ?_ (by assumption) | refine IsVal.mono ?_ (by assumption) | refine IsTxt.mono ?_ (by assumption) | refine IsNum.mono ?_ (by assumption) | refine IsP.mono ?_ (by assumption) | refine Whs.mono ?_ (by assumption) | refine Toks.mono ?_ (by assumption) | refine IsE.mono ?_ (by assumption) | refine KC.mono ?_ (by assumption) | refine IsK.mono ?_ (by assumption) | refine Nz.mono ?_ (by assumption))); first | done | assumption)) (fun v hQ lhQ hr => ?_); obtain ⟨c5, d5, rfl, w5⟩ := hr; conv => whnf)
           | (refine CallN.fn rfl (kc rfl rfl rfl _ _ _ _ _ (by (iterate 30 (try first | assumption | refine IsNat.mono ?_ (by assumption) | refine IsRef.mono ?_ (by assumption) | refine Ws.mono ?_ (by assumption) | refine Tb.mono ?_ (by assumption) | refine IsFr.mono ?_ (by assumption) | refine IsQ.mono ?_ (by assumption) | refine IsRat.mono ?_ (by assumption) | refine IsVal.mono ?_ (by assumption) | refine IsTxt.mono ?_ (by assumption) | refine IsNum.mono ?_ (by assumption) | refine IsP.mono ?_ (by assumption) | refine Whs.mono ?_ (by assumption) | refine Toks.mono ?_ (by assumption) | refine IsE.mono ?_ (by assumption) | refine KC.mono ?_ (by assumption) | refine IsK.mono ?_ (by assumption) | refine Nz.mono ?_ (by assumption))); first | done | assumption) (by (iterate 30 (try first | assumption | refine IsNat.mono ?_ (by assumption) | refine IsRef.mono ?_ (by assumption) | refine Ws.mono ?_ (by assumption) | refine Tb.mono ?_ (by assumption) | refine IsFr.mono ?_ (by assumption) | refine IsQ.mono ?_ (by assumption) | refine IsRat.mono ?_ (by assumption) | refine IsVal.mono ?_ (by assumption) | refine IsTxt.mono ?_ (by assumption) | refine IsNum.mono ?_ (by assumption) | refine IsP.mono ?_ (by assumption) | refine Whs.mono ?_ (by assumption) | refine Toks.mono ?_ (by assumption) | refine IsE.mono ?_ (by assumption) | refine KC.mono ?_ (by assumption) | refine IsK.mono ?_ (by assumption) | refine Nz.mono ?_ (by assumption))); first | done | assumption) (by (iterate 30 (try first | assumption | refine IsNat.mono ?_ (by assumption) | refine IsRef.mono ?_ (by assumption) | refine Ws.mono ?_ (by assumption) | refine Tb.mono ?_ (by assumption) | refine IsFr.mono ?_ (by assumption) | refine IsQ.mono ?_ (by assumption) | refine IsRat.mono ?_ (by assumption) | refine IsVal.mono ?_ (by assumption) | refine IsTxt.mono ?_ (by assumption) | refine IsNum.mono ?_ (by assumption) | refine IsP.mono ?_ (by assumption) | refine Whs.mono ?_ (by assumption) | refine Toks.mono ?_ (by assumption) | refine IsE.mono ?_ (by assumption) | refine KC.mono ?_ (by assumption) | refine IsK.mono ?_ (by assumption) | refine Nz.mono ?_ (by assumption))); first | done | assumption) (by (iterate 30 (try first | assumption | refine IsNat.mono ?_ (by assumption) | refine IsRef.mono ?_ (by assumption) | refine Ws.mono ?_ (by assumption) | refine Tb.mono ?_ (by assumption) | refine IsFr.mono ?_ (by assumption) | refine IsQ.mono ?_ (by assumption) | refine IsRat.mono ?_ (by assumption) | refine IsVal.mono ?_ (by assumption) | refine IsTxt.mono ?_ (by assumption) | refine IsNum.mono ?_ (by assumption) | refine IsP.mono ?_ (by assumption) | refine Whs.mono ?_ (by assumption) | refine Toks.mono ?_ (by assumption) | refine IsE.mono ?_ (by assumption) | refine KC.mono ?_ (by assumption) | refine IsK.mono ?_ (by assumption) | refine Nz.mono ?_ (by assumption))); first | done | assumption)) (fun v hR lhR hr => ?_); obtain rfl := hr; conv => whnf))
         | ((first | refine opsI.step ?_ | refine codeI.step ?_); conv => whnf)
         | (refine ⟨fun _ => HasLe.of_le (Heap.le_refl _), ?_⟩; conv => whnf)
         | (refine ⟨fun _ => HasLe.of_le (by assumption), ?_⟩; conv => whnf)
         | (refine ⟨fun _ => HasLe.cons _, ?_⟩; conv => whnf)
         | (refine ⟨fun hst => (by cases (show true = false from hst)), ?_⟩; conv => whnf)
         | (intro (_ : Nat); conv => whnf)
         | (show WrapN _ _ _; first
           | (refine WrapN.i64 (by omega) (by omega) ?_; conv => whnf)
           | (refine WrapN.u64 (by omega) (by omega) ?_; conv => whnf)
           | (refine WrapN.u32 (by omega) (by omega) ?_; conv => whnf)
           | (refine WrapN.u8 (by omega) (by omega) ?_; conv => whnf))
         | (show cnd _ _ _; first
           | (refine cnd_lt (fun _ => ?_) (fun _ => ?_) <;> first | (exfalso; omega) | (conv => whnf))
           | (refine cnd_le (fun _ => ?_) (fun _ => ?_) <;> first | (exfalso; omega) | (conv => whnf))
           | (refine cnd_eq (fun _ => ?_) (fun _ => ?_) <;> first | (exfalso; omega) | (conv => whnf))
           | (refine cnd_not ?_)
           | (refine cnd_beq (fun _ => ?_) (fun hne => ?_) <;> first | exact absurd rfl hne | (conv => whnf))
           | (refine cnd_dec (fun _ => ?_) (fun _ => ?_) <;> first | (exfalso; omega) | (conv => whnf))
           | (refine cnd_bool (fun hb => ?_) (fun hb => ?_) <;> (first | cases hb | subst hb) <;> (conv => whnf))
           | (refine cnd_bool (fun _ => ?_) (fun _ => ?_) <;> (conv => whnf)))
         | (show LdN _ _ _ _ _; first
           | (refine LdN.own 0 rfl rfl ?_; conv => whnf)
           | (refine LdN.own 1 rfl rfl ?_; conv => whnf)
           | (refine LdN.own 2 rfl rfl ?_; conv => whnf)
           | (refine LdN.own 3 rfl rfl ?_; conv => whnf)
           | (refine LdN.own 4 rfl rfl ?_; conv => whnf)
           | (refine LdN.own 5 rfl rfl ?_; conv => whnf)
           | (refine LdN.own 6 rfl rfl ?_; conv => whnf)
           | (refine LdN.own 7 rfl rfl ?_; conv => whnf)
           | (refine LdN.own 8 rfl rfl ?_; conv => whnf)
           | (refine LdN.own 9 rfl rfl ?_; conv => whnf)
           | (refine LdN.own 10 rfl rfl ?_; conv => whnf)
           | (refine LdN.own 11 rfl rfl ?_; conv => whnf)
           | (refine LdN.own 12 rfl rfl ?_; conv => whnf)
           | (refine LdN.own 13 rfl rfl ?_; conv => whnf)
           | (refine LdN.own 14 rfl rfl ?_; conv => whnf)
           | (refine LdN.own 15 rfl rfl ?_; conv => whnf)
           | (refine LdN.own 16 rfl rfl ?_; conv => whnf)
           | (refine LdN.own 17 rfl rfl ?_; conv => whnf)
           | (refine LdN.own 18 rfl rfl ?_; conv => whnf)
           | (refine LdN.own 19 rfl rfl ?_; conv => whnf)
           | (refine LdN.own 20 rfl rfl ?_; conv => whnf)
           | (refine LdN.own 21 rfl rfl ?_; conv => whnf)
           | (refine LdN.own 22 rfl rfl ?_; conv => whnf)
           | (refine LdN.own 23 rfl rfl ?_; conv => whnf)
           | (refine LdN.own 24 rfl rfl ?_; conv => whnf)
           | (refine LdN.own 25 rfl rfl ?_; conv => whnf)
           | (refine LdN.own 26 rfl rfl ?_; conv => whnf)
           | (refine LdN.own 27 rfl rfl ?_; conv => whnf))
         | (show Ld _ _ _ _; first
           | (refine Ld.own 0 rfl rfl ?_; conv => whnf)
           | (refine Ld.own 1 rfl rfl ?_; conv => whnf)
           | (refine Ld.own 2 rfl rfl ?_; conv => whnf)
           | (refine Ld.own 3 rfl rfl ?_; conv => whnf)
           | (refine Ld.own 4 rfl rfl ?_; conv => whnf)
           | (refine Ld.own 5 rfl rfl ?_; conv => whnf)
           | (refine Ld.own 6 rfl rfl ?_; conv => whnf)
           | (refine Ld.own 7 rfl rfl ?_; conv => whnf)
           | (refine Ld.own 8 rfl rfl ?_; conv => whnf)
           | (refine Ld.own 9 rfl rfl ?_; conv => whnf))
         | (show Sto _ _ _ _; first
           | (refine Sto.lit 0 rfl rfl rfl ?_; conv => whnf)
           | (refine Sto.lit 1 rfl rfl rfl ?_; conv => whnf)
           | (refine Sto.lit 2 rfl rfl rfl ?_; conv => whnf)
           | (refine Sto.lit 3 rfl rfl rfl ?_; conv => whnf)
           | (refine Sto.lit 4 rfl rfl rfl ?_; conv => whnf)
           | (refine Sto.lit 5 rfl rfl rfl ?_; conv => whnf)
           | (refine Sto.lit 6 rfl rfl rfl ?_; conv => whnf)
           | (refine Sto.lit 7 rfl rfl rfl ?_; conv => whnf)
           | (refine Sto.lit 8 rfl rfl rfl ?_; conv => whnf)
           | (refine Sto.lit 9 rfl rfl rfl ?_; conv => whnf)
           | (refine Sto.lit 10 rfl rfl rfl ?_; conv => whnf))
         | (show Both _ _; first
           | (refine Both.mk ?_ ?_ <;> (conv => whnf)))
        all_goals exact ⟨rfl, rfl, (by (iterate 30 (try first | assumption | exact Heap.le_refl _ | refine Heap.le_trans ?_ (by assumption))); first | done | assumption), rfl⟩
      conv => whnf
      repeat intro _
      rename_i h9 L9 hj
      obtain ⟨e66, hle, rfl⟩ := hj
      conv at e66 => lhs; whnf
      subst e66
      have tb2 : Tb h9 := (by (iterate 30 (try first | assumption | refine IsNat.mono ?_ (by assumption) | refine IsRef.mono ?_ (by assumption) | refine Ws.mono ?_ (by assumption) | refine Tb.mono ?_ (by assumption) | refine IsFr.mono ?_ (by assumption) | refine IsQ.mono ?_ (by assumption) | refine IsRat.mono ?_ (by assumption) | refine IsVal.mono ?_ (by assumption) | refine IsTxt.mono ?_ (by assumption) | refine IsNum.mono ?_ (by assumption) | refine IsP.mono ?_ (by assumption) | refine Whs.mono ?_ (by assumption) | refine Toks.mono ?_ (by assumption) | refine IsE.mono ?_ (by assumption) | refine KC.mono ?_ (by assumption) | refine IsK.mono ?_ (by assumption) | refine Nz.mono ?_ (by assumption))); first | done | assumption)
      clear kp1 kp2 kc
      repeat' first
       | (refine codeI.seqN (a := .region 10 _ _) ?_)
       | ((first | refine opsI.step ?_ | refine codeI.step ?_); conv => whnf)
       | (refine ⟨fun _ => HasLe.of_le (Heap.le_refl _), ?_⟩; conv => whnf)
       | (refine ⟨fun _ => HasLe.of_le (by assumption), ?_⟩; conv => whnf)
       | (refine ⟨fun _ => HasLe.cons _, ?_⟩; conv => whnf)
       | (refine ⟨fun hst => (by cases (show true = false from hst)), ?_⟩; conv => whnf)
       | (intro (_ : Nat); conv => whnf)
       | (show DrawN _ _ _ _ _ _; first
         | (refine DrawN.run (by decide +kernel) ?_; conv => whnf)
         | (refine DrawN.run (by decide +kernel) ?_; conv => whnf))
       | (show CallN _ _ _ _ _ _; first
         | (refine CallN.fn rfl (kq _ _ _ _ _ (by (iterate 30 (try first | assumption | refine IsNat.mono ?_ (by assumption) | refine IsRef.mono ?_ (by assumption) | refine Ws.mono ?_ (by assumption) | refine Tb.mono ?_ (by assumption) | refine IsFr.mono ?_ (by assumption) | refine IsQ.mono ?_ (by assumption) | refine IsRat.mono ?_ (by assumption) | refine IsVal.mono ?_ (by assumption) | refine IsTxt.mono ?_ (by assumption) | refine IsNum.mono ?_ (by assumption) | refine IsP.mono ?_ (by assumption) | refine Whs.mono ?_ (by assumption) | refine Toks.mono ?_ (by assumption) | refine IsE.mono ?_ (by assumption) | refine KC.mono ?_ (by assumption) | refine IsK.mono ?_ (by assumption) | refine Nz.mono ?_ (by assumption))); first | done | assumption) (by (iterate 30 (try first | assumption | refine IsNat.mono ?_ (by assumption) | refine IsRef.mono ?_ (by assumption) | refine Ws.mono ?_ (by assumption) | refine Tb.mono ?_ (by assumption) | refine IsFr.mono ?_ (by assumption) | refine IsQ.mono ?_ (by assumption) | refine IsRat.mono ?_ (by assumption) | refine IsVal.mono ?_ (by assumption) | refine IsTxt.mono ?_ (by assumption) | refine IsNum.mono ?_ (by assumption) | refine IsP.mono ?_ (by assumption) | refine Whs.mono ?_ (by assumption) | refine Toks.mono ?_ (by assumption) | refine IsE.mono ?_ (by assumption) | refine KC.mono ?_ (by assumption) | refine IsK.mono ?_ (by assumption) | refine Nz.mono ?_ (by assumption))); first | done | assumption)) (fun v hE lhE hr => ?_); obtain ⟨c6, d6, rfl, w6⟩ := hr; conv => whnf)
         | (refine CallN.fn rfl (kL1 _ (by (iterate 30 (try first | assumption | refine IsNat.mono ?_ (by assumption) | refine IsRef.mono ?_ (by assumption) | refine Ws.mono ?_ (by assumption) | refine Tb.mono ?_ (by assumption) | refine IsFr.mono ?_ (by assumption) | refine IsQ.mono ?_ (by assumption) | refine IsRat.mono ?_ (by assumption) | refine IsVal.mono ?_ (by assumption) | refine IsTxt.mono ?_ (by assumption) | refine IsNum.mono ?_ (by assumption) | refine IsP.mono ?_ (by assumption) | refine Whs.mono ?_ (by assumption) | refine Toks.mono ?_ (by assumption) | refine IsE.mono ?_ (by assumption) | refine KC.mono ?_ (by assumption) | refine IsK.mono ?_ (by assumption) | refine Nz.mono ?_ (by assumption))); first | done | assumption) _ _ (by (iterate 30 (try first | assumption | refine IsNat.mono ?_ (by assumption) | refine IsRef.mono ?_ (by assumption) | refine Ws.mono ?_ (by assumption) | refine Tb.mono ?_ (by assumption) | refine IsFr.mono ?_ (by assumption) | refine IsQ.mono ?_ (by assumption) | refine IsRat.mono ?_ (by assumption) | refine IsVal.mono ?_ (by assumption) | refine IsTxt.mono ?_ (by assumption) | refine IsNum.mono ?_ (by assumption) | refine IsP.mono ?_ (by assumption) | refine Whs.mono ?_ (by assumption) | refine Toks.mono ?_ (by assumption) | refine IsE.mono ?_ (by assumption) | refine KC.mono ?_ (by assumption) | refine IsK.mono ?_ (by assumption) | refine Nz.mono ?_ (by assumption))); first | done | assumption)) (fun v hF lhF hr => ?_); obtain ⟨a4, b4, u4, v4, x4, y4, o4, rfl, wa4, wb4, sa4, sb4, g4⟩ := hr; conv => whnf)
         | (refine CallN.fn rfl (kL2 _ (by (iterate 30 (try first | assumption | refine IsNat.mono ?_ (by assumption) | refine IsRef.mono ?_ (by assumption) | refine Ws.mono ?_ (by assumption) | refine Tb.mono ?_ (by assumption) | refine IsFr.mono ?_ (by assumption) | refine IsQ.mono ?_ (by assumption) | refine IsRat.mono ?_ (by assumption) | refine IsVal.mono ?_ (by assumption) | refine IsTxt.mono ?_ (by assumption) | refine IsNum.mono ?_ (by assumption) | refine IsP.mono ?_ (by assumption) | refine Whs.mono ?_ (by assumption) | refine Toks.mono ?_ (by assumption) | refine IsE.mono ?_ (by assumption) | refine KC.mono ?_ (by assumption) | refine IsK.mono ?_ (by assumption) | refine Nz.mono ?_ (by assumption))); first | done | assumption) _ _ (by (iterate 30 (try first | assumption | refine IsNat.mono ?_ (by assumption) | refine IsRef.mono ?_ (by assumption) | refine Ws.mono ?_ (by assumption) | refine Tb.mono ?_ (by assumption) | refine IsFr.mono ?_ (by assumption) | refine IsQ.mono ?_ (by assumption) | refine IsRat.mono ?_ (by assumption) | refine IsVal.mono ?_ (by assumption) | refine IsTxt.mono ?_ (by assumption) | refine IsNum.mono ?_ (by assumption) | refine IsP.mono ?_ (by assumption) | refine Whs.mono ?_ (by assumption) | refine Toks.mono ?_ (by assumption) | refine IsE.mono ?_ (by assumption) | refine KC.mono ?_ (by assumption) | refine IsK.mono ?_ (by assumption) | refine Nz.mono ?_ (by assumption))); first | done | assumption)) (fun v hG lhG hr => ?_); obtain ⟨a5, b5, u5, v5, x5, y5, o5, rfl, wa5, wb5, sa5, sb5, g5⟩ := hr; conv => whnf)
         | (refine CallN.fn rfl (kL3 _ (by (iterate 30 (try first | assumption | refine IsNat.mono ?_ (by assumption) | refine IsRef.mono ?_ (by assumption) | refine Ws.mono ?_ (by assumption) | refine Tb.mono ?_ (by assumption) | refine IsFr.mono ?_ (by assumption) | refine IsQ.mono ?_ (by assumption) | refine IsRat.mono ?_ (by assumption) | refine IsVal.mono ?_ (by assumption) | refine IsTxt.mono ?_ (by assumption) | refine IsNum.mono ?_ (by assumption) | refine IsP.mono ?_ (by assumption) | refine Whs.mono ?_ (by assumption) | refine Toks.mono ?_ (by assumption) | refine IsE.mono ?_ (by assumption) | refine KC.mono ?_ (by assumption) | refine IsK.mono ?_ (by assumption) | refine Nz.mono ?_ (by assumption))); first | done | assumption) _ _ (by (iterate 30 (try first | assumption | refine IsNat.mono ?_ (by assumption) | refine IsRef.mono ?_ (by assumption) | refine Ws.mono ?_ (by assumption) | refine Tb.mono ?_ (by assumption) | refine IsFr.mono ?_ (by assumption) | refine IsQ.mono ?_ (by assumption) | refine IsRat.mono ?_ (by assumption) | refine IsVal.mono ?_ (by assumption) | refine IsTxt.mono ?_ (by assumption) | refine IsNum.mono ?_ (by assumption) | refine IsP.mono ?_ (by assumption) | refine Whs.mono ?_ (by assumption) | refine Toks.mono ?_ (by assumption) | refine IsE.mono ?_ (by assumption) | refine KC.mono ?_ (by assumption) | refine IsK.mono ?_ (by assumption) | refine Nz.mono ?_ (by assumption))); first | done | assumption)) (fun v hH lhH hr => ?_); obtain ⟨a6, b6, u6, v6, x6, y6, o6, rfl, wa6, wb6, sa6, sb6, g6⟩ := hr; conv => whnf))
       | (show WrapN _ _ _; first
         | (refine WrapN.i64 (by omega) (by omega) ?_; conv => whnf)
         | (refine WrapN.u64 (by omega) (by omega) ?_; conv => whnf)
         | (refine WrapN.u32 (by omega) (by omega) ?_; conv => whnf)
         | (refine WrapN.u8 (by omega) (by omega) ?_; conv => whnf))
       | (show cnd _ _ _; first
         | (refine cnd_lt (fun _ => ?_) (fun _ => ?_) <;> first | (exfalso; omega) | (conv => whnf))
         | (refine cnd_le (fun _ => ?_) (fun _ => ?_) <;> first | (exfalso; omega) | (conv => whnf))
         | (refine cnd_eq (fun _ => ?_) (fun _ => ?_) <;> first | (exfalso; omega) | (conv => whnf))
         | (refine cnd_not ?_)
         | (refine cnd_beq (fun _ => ?_) (fun hne => ?_) <;> first | exact absurd rfl hne | (conv => whnf))
         | (refine cnd_dec (fun _ => ?_) (fun _ => ?_) <;> first | (exfalso; omega) | (conv => whnf))
         | (refine cnd_bool (fun hb => ?_) (fun hb => ?_) <;> (first | cases hb | subst hb) <;> (conv => whnf))
         | (refine cnd_bool (fun _ => ?_) (fun _ => ?_) <;> (conv => whnf)))
       | (show LdN _ _ _ _ _; first
         | (refine LdN.own 0 rfl rfl ?_; conv => whnf)
         | (refine LdN.own 1 rfl rfl ?_; conv => whnf)
         | (refine LdN.own 2 rfl rfl ?_; conv => whnf)
         | (refine LdN.own 3 rfl rfl ?_; conv => whnf)
         | (refine LdN.own 4 rfl rfl ?_; conv => whnf)
         | (refine LdN.own 5 rfl rfl ?_; conv => whnf)
         | (refine LdN.own 6 rfl rfl ?_; conv => whnf)
         | (refine LdN.own 7 rfl rfl ?_; conv => whnf)
         | (refine LdN.own 8 rfl rfl ?_; conv => whnf)
         | (refine LdN.own 9 rfl rfl ?_; conv => whnf)
         | (refine LdN.own 10 rfl rfl ?_; conv => whnf)
         | (refine LdN.own 11 rfl rfl ?_; conv => whnf)
         | (refine LdN.own 12 rfl rfl ?_; conv => whnf)
         | (refine LdN.own 13 rfl rfl ?_; conv => whnf)
         | (refine LdN.own 14 rfl rfl ?_; conv => whnf)
         | (refine LdN.own 15 rfl rfl ?_; conv => whnf)
         | (refine LdN.own 16 rfl rfl ?_; conv => whnf)
         | (refine LdN.own 17 rfl rfl ?_; conv => whnf)
         | (refine LdN.own 18 rfl rfl ?_; conv => whnf)
         | (refine LdN.own 19 rfl rfl ?_; conv => whnf)
         | (refine LdN.own 20 rfl rfl ?_; conv => whnf)
         | (refine LdN.own 21 rfl rfl ?_; conv => whnf)
         | (refine LdN.own 22 rfl rfl ?_; conv => whnf)
         | (refine LdN.own 23 rfl rfl ?_; conv => whnf)
         | (refine LdN.own 24 rfl rfl ?_; conv => whnf)
         | (refine LdN.own 25 rfl rfl ?_; conv => whnf)
         | (refine LdN.own 26 rfl rfl ?_; conv => whnf)
         | (refine LdN.own 27 rfl rfl ?_; conv => whnf))
       | (show Ld _ _ _ _; first
         | (refine Ld.own 0 rfl rfl ?_; conv => whnf)
         | (refine Ld.own 1 rfl rfl ?_; conv => whnf)
         | (refine Ld.own 2 rfl rfl ?_; conv => whnf)
         | (refine Ld.own 3 rfl rfl ?_; conv => whnf)
         | (refine Ld.own 4 rfl rfl ?_; conv => whnf)
         | (refine Ld.own 5 rfl rfl ?_; conv => whnf)
         | (refine Ld.own 6 rfl rfl ?_; conv => whnf)
         | (refine Ld.own 7 rfl rfl ?_; conv => whnf)
         | (refine Ld.own 8 rfl rfl ?_; conv => whnf)
         | (refine Ld.own 9 rfl rfl ?_; conv => whnf))
       | (show Sto _ _ _ _; first
         | (refine Sto.lit 0 rfl rfl rfl ?_; conv => whnf)
         | (refine Sto.lit 1 rfl rfl rfl ?_; conv => whnf)
         | (refine Sto.lit 2 rfl rfl rfl ?_; conv => whnf)
         | (refine Sto.lit 3 rfl rfl rfl ?_; conv => whnf)
         | (refine Sto.lit 4 rfl rfl rfl ?_; conv => whnf)
         | (refine Sto.lit 5 rfl rfl rfl ?_; conv => whnf)
         | (refine Sto.lit 6 rfl rfl rfl ?_; conv => whnf)
         | (refine Sto.lit 7 rfl rfl rfl ?_; conv => whnf)
         | (refine Sto.lit 8 rfl rfl rfl ?_; conv => whnf)
         | (refine Sto.lit 9 rfl rfl rfl ?_; conv => whnf)
         | (refine Sto.lit 10 rfl rfl rfl ?_; conv => whnf))
       | (show Both _ _; first
         | (refine Both.mk ?_ ?_ <;> (conv => whnf)))
      have kp1 := fun h w w' => Diff_ct h u4 v4 x5 y5 a4 b5 w w' (sa4.mono (by decide)) (sb5.mono (by decide))
      have kp2 := fun h w w' => Diff_ct h x4 y4 u5 v5 b4 a5 w w' (sb4.mono (by decide)) (sa5.mono (by decide))
      have z1 : Sr 65536 (a4 - b5) := by rw [Rat.sub_eq_add_neg]; exact (sr_add sa4 (Sr.neg sb5)).mono (by decide)
      have z2 : Sr 65536 (b4 - a5) := by rw [Rat.sub_eq_add_neg]; exact (sr_add sb4 (Sr.neg sa5)).mono (by decide)
      have kc := fun (q1 : o4 = true) (q2 : o5 = true) (q3 : o6 = true) h c d c' d' w w' w3 w4 => (common_ct h c d c' d' u6 v6 x6 y6 (a4 - b5) (b4 - a5) a6 b6 w w' w3 w4 z1 z2 (sa6.mono (by decide)) (sb6.mono (by decide))).mono fun v h' _ r => (show v = .bool true from by rw [r, dec_true (An.log_quot (g4 q1).1 (g5 q2).1 (g4 q1).2 (g5 q2).2 (ht ▸ (g6 q3).2))])
      obtain ⟨m1, e1⟩ : ∃ m, m = a4 - b5 := ⟨_, rfl⟩
      obtain ⟨m2, e2⟩ : ∃ m, m = b4 - a5 := ⟨_, rfl⟩
      rw [← e1] at kp1
      rw [← e2] at kp2
      rw [← e1, ← e2] at kc
      clear e1 e2 z1 z2 kL1 kL2 kL3 kq
      refine SeqN.meet 111 false ?_ ?_
      · conv => whnf
        repeat ((first | refine opsI.step ?_ | refine codeI.step ?_); conv => whnf)
        repeat' first
         | (show SeqN _ _ _ _ _ _ _; first
           | (refine SeqN.go ?_; conv => whnf))
         | (show DrawN _ _ _ _ _ _; first
           | (refine DrawN.run (by decide +kernel) ?_; conv => whnf)
           | (refine DrawN.run (by decide +kernel) ?_; conv => whnf))
         | (show CallN _ _ _ _ _ _; first
           | (refine CallN.fn rfl (kp1 _ (by (iterate 30 (try first | assumption | refine IsNat.mono ?_ (by assumption) | refine IsRef.mono ?_ (by assumption) | refine Ws.mono ?_ (by assumption) | refine Tb.mono ?_ (by assumption) | refine IsFr.mono ?_ (by assumption) | refine IsQ.mono ?_ (by assumption) | refine IsRat.mono ?_ (by assumption) | refine IsVal.mono ?_ (by assumption) | refine IsTxt.mono ?_ (by assumption) | refine IsNum.mono ?_ (by assumption) | refine IsP.mono ?_ (by assumption) | refine Whs.mono ?_ (by assumption) | refine Toks.mono ?_ (by assumption) | refine IsE.mono ?_ (by assumption) | refine KC.mono ?_ (by assumption) | refine IsK.mono ?_ (by assumption) | refine Nz.mono ?_ (by assumption))); first | done | assumption) (by (iterate 30 (try first | assumption | refine IsNat.mono ?_ (by assumption) | refine IsRef.mono ?_ (by assumption) | refine Ws.mono ?_ (by assumption) | refine Tb.mono ?_ (by assumption) | refine IsFr.mono ?_ (by assumption) | refine IsQ.mono ?_ (by assumption) | refine IsRat.mono ?_ (by assumption) | refine IsVal.mono ?_ (by assumption) | refine IsTxt.mono ?_ (by assumption) | refine IsNum.mono ?_ (by assumption) | refine IsP.mono ?_ (by assumption) | refine Whs.mono ?_ (by assumption) | refine Toks.mono ?_ (by assumption) | refine IsE.mono ?_ (by assumption) | refine KC.mono ?_ (by assumption) | refine IsK.mono ?_ (by assumption) | refine Nz.mono ?_ (by assumption))); first | done | assumption)) (fun v hP lhP hr => ?_); obtain ⟨c4, d4, rfl, w4⟩ := hr; conv => whnf)
           | (refine CallN.fn rfl (kp2 _ (by (iterate 30 (try first | assumption | refine IsNat.mono ?_ (by assumption) | refine IsRef.mono ?_ (by assumption) | refine Ws.mono ?_ (by assumption) | refine Tb.mono ?_ (by assumption) | refine IsFr.mono ?_ (by assumption) | refine IsQ.mono ?_ (by assumption) | refine IsRat.mono ?_ (by assumption) | refine IsVal.mono ?_ (by assumption) | refine IsTxt.mono ?_ (by assumption) | refine IsNum.mono ?_ (by assumption) | refine IsP.mono ?_ (by assumption) | refine Whs.mono ?_ (by assumption) | refine Toks.mono ?_ (by assumption) | refine IsE.mono ?_ (by assumption) | refine KC.mono ?_ (by assumption) | refine IsK.mono ?_ (by assumption) | refine Nz.mono ?_ (by assumption))); first | done | assumption) (by (iterate 30 (try first | assumption | refine IsNat.mono ?_ (by assumption) | refine IsRef.mono ?_ (by assumption) | refine Ws.mono ?_ (by assumption) | refine Tb.mono ?_ (by assumption) | refine IsFr.mono ?_ (by assumption) | refine IsQ.mono ?_ (by assumption) | refine IsRat.mono ?_ (by assumption) | refine IsVal.mono ?_ (by assumption) | refine IsTxt.mono ?_ (by assumption) | refine IsNum.mono ?_ (by assumption) | refine IsP.mono ?_ (by assumption) | refine Whs.mono ?_ (by assumption) | refine Toks.mono ?_ (by assumption) | refine IsE.mono ?_ (by assumption) | refine KC.mono ?_ (by assumption) | refine IsK.mono ?_ (by assumption) | refine Nz.mono ?_ (by assumption))); first | done | assumption)) (fun v hQ lhQ hr => ?_); obtain ⟨c5, d5, rfl, w5⟩ := hr; conv => whnf)
           | (refine CallN.fn rfl (kc rfl rfl rfl _ _ _ _ _ (by (iterate 30 (try first | assumption | refine IsNat.mono ?_ (by assumption) | refine IsRef.mono ?_ (by assumption) | refine Ws.mono ?_ (by assumption) | refine Tb.mono ?_ (by assumption) | refine IsFr.mono ?_ (by assumption) | refine IsQ.mono ?_ (by assumption) | refine IsRat.mono ?_ (by assumption) | refine IsVal.mono ?_ (by assumption) | refine IsTxt.mono ?_ (by assumption) | refine IsNum.mono ?_ (by assumption) | refine IsP.mono ?_ (by assumption) | refine Whs.mono ?_ (by assumption) | refine Toks.mono ?_ (by assumption) | refine IsE.mono ?_ (by assumption) | refine KC.mono ?_ (by assumption) | refine IsK.mono ?_ (by assumption) | refine Nz.mono ?_ (by assumption))); first | done | assumption) (by (iterate 30 (try first | assumption | refine IsNat.mono ?_ (by assumption) | refine IsRef.mono ?_ (by assumption) | refine Ws.mono ?_ (by assumption) | refine Tb.mono ?_ (by assumption) | refine IsFr.mono ?_ (by assumption) | refine IsQ.mono ?_ (by assumption) | refine IsRat.mono ?_ (by assumption) | refine IsVal.mono ?_ (by assumption) | refine IsTxt.mono ?_ (by assumption) | refine IsNum.mono ?_ (by assumption) | refine IsP.mono ?_ (by assumption) | refine Whs.mono ?_ (by assumption) | refine Toks.mono ?_ (by assumption) | refine IsE.mono ?_ (by assumption) | refine KC.mono ?_ (by assumption) | refine IsK.mono ?_ (by assumption) | refine Nz.mono ?_ (by assumption))); first | done | assumption) (by (iterate 30 (try first | assumption | refine IsNat.mono ?_ (by assumption) | refine IsRef.mono ?_ (by assumption) | refine Ws.mono ?_ (by assumption) | refine Tb.mono ?_ (by assumption) | refine IsFr.mono ?_ (by assumption) | refine IsQ.mono ?_ (by assumption) | refine IsRat.mono ?_ (by assumption) | refine IsVal.mono ?_ (by assumption) | refine IsTxt.mono ?_ (by assumption) | refine IsNum.mono ?_ (by assumption) | refine IsP.mono ?_ (by assumption) | refine Whs.mono ?_ (by assumption) | refine Toks.mono ?_ (by assumption) | refine IsE.mono ?_ (by assumption) | refine KC.mono ?_ (by assumption) | refine IsK.mono ?_ (by assumption) | refine Nz.mono ?_ (by assumption))); first | done | assumption) (by (iterate 30 (try first | assumption | refine IsNat.mono ?_ (by assumption) | refine IsRef.mono ?_ (by assumption) | refine Ws.mono ?_ (by assumption) | refine Tb.mono ?_ (by assumption) | refine IsFr.mono ?_ (by assumption) | refine IsQ.mono ?_ (by assumption) | refine IsRat.mono ?_ (by assumption) | refine IsVal.mono ?_ (by assumption) | refine IsTxt.mono ?_ (by assumption) | refine IsNum.mono ?_ (by assumption) | refine IsP.mono ?_ (by assumption) | refine Whs.mono ?_ (by assumption) | refine Toks.mono ?_ (by assumption) | refine IsE.mono ?_ (by assumption) | refine KC.mono ?_ (by assumption) | refine IsK.mono ?_ (by assumption) | refine Nz.mono ?_ (by assumption))); first | done | assumption)) (fun v hR lhR hr => ?_); obtain rfl := hr; conv => whnf))
         | ((first | refine opsI.step ?_ | refine codeI.step ?_); conv => whnf)
         | (refine ⟨fun _ => HasLe.of_le (Heap.le_refl _), ?_⟩; conv => whnf)
         | (refine ⟨fun _ => HasLe.of_le (by assumption), ?_⟩; conv => whnf)
         | (refine ⟨fun _ => HasLe.cons _, ?_⟩; conv => whnf)
         | (refine ⟨fun hst => (by cases (show true = false from hst)), ?_⟩; conv => whnf)
         | (intro (_ : Nat); conv => whnf)
         | (show WrapN _ _ _; first
           | (refine WrapN.i64 (by omega) (by omega) ?_; conv => whnf)
           | (refine WrapN.u64 (by omega) (by omega) ?_; conv => whnf)
           | (refine WrapN.u32 (by omega) (by omega) ?_; conv => whnf)
           | (refine WrapN.u8 (by omega) (by omega) ?_; conv => whnf))
         | (show cnd _ _ _; first
           | (refine cnd_lt (fun _ => ?_) (fun _ => ?_) <;> first | (exfalso; omega) | (conv => whnf))
           | (refine cnd_le (fun _ => ?_) (fun _ => ?_) <;> first | (exfalso; omega) | (conv => whnf))
           | (refine cnd_eq (fun _ => ?_) (fun _ => ?_) <;> first | (exfalso; omega) | (conv => whnf))
           | (refine cnd_not ?_)
           | (refine cnd_beq (fun _ => ?_) (fun hne => ?_) <;> first | exact absurd rfl hne | (conv => whnf))
           | (refine cnd_dec (fun _ => ?_) (fun _ => ?_) <;> first | (exfalso; omega) | (conv => whnf))
           | (refine cnd_bool (fun hb => ?_) (fun hb => ?_) <;> (first | cases hb | subst hb) <;> (conv => whnf))
           | (refine cnd_bool (fun _ => ?_) (fun _ => ?_) <;> (conv => whnf)))
         | (show LdN _ _ _ _ _; first
           | (refine LdN.own 0 rfl rfl ?_; conv => whnf)
           | (refine LdN.own 1 rfl rfl ?_; conv => whnf)
           | (refine LdN.own 2 rfl rfl ?_; conv => whnf)
           | (refine LdN.own 3 rfl rfl ?_; conv => whnf)
           | (refine LdN.own 4 rfl rfl ?_; conv => whnf)
           | (refine LdN.own 5 rfl rfl ?_; conv => whnf)
           | (refine LdN.own 6 rfl rfl ?_; conv => whnf)
           | (refine LdN.own 7 rfl rfl ?_; conv => whnf)
           | (refine LdN.own 8 rfl rfl ?_; conv => whnf)
           | (refine LdN.own 9 rfl rfl ?_; conv => whnf)
           | (refine LdN.own 10 rfl rfl ?_; conv => whnf)
           | (refine LdN.own 11 rfl rfl ?_; conv => whnf)
           | (refine LdN.own 12 rfl rfl ?_; conv => whnf)
           | (refine LdN.own 13 rfl rfl ?_; conv => whnf)
           | (refine LdN.own 14 rfl rfl ?_; conv => whnf)
           | (refine LdN.own 15 rfl rfl ?_; conv => whnf)
           | (refine LdN.own 16 rfl rfl ?_; conv => whnf)
           | (refine LdN.own 17 rfl rfl ?_; conv => whnf)
           | (refine LdN.own 18 rfl rfl ?_; conv => whnf)
           | (refine LdN.own 19 rfl rfl ?_; conv => whnf)
           | (refine LdN.own 20 rfl rfl ?_; conv => whnf)
           | (refine LdN.own 21 rfl rfl ?_; conv => whnf)
           | (refine LdN.own 22 rfl rfl ?_; conv => whnf)
           | (refine LdN.own 23 rfl rfl ?_; conv => whnf)
           | (refine LdN.own 24 rfl rfl ?_; conv => whnf)
           | (refine LdN.own 25 rfl rfl ?_; conv => whnf)
           | (refine LdN.own 26 rfl rfl ?_; conv => whnf)
           | (refine LdN.own 27 rfl rfl ?_; conv => whnf))
         | (show Ld _ _ _ _; first
           | (refine Ld.own 0 rfl rfl ?_; conv => whnf)
           | (refine Ld.own 1 rfl rfl ?_; conv => whnf)
           | (refine Ld.own 2 rfl rfl ?_; conv => whnf)
           | (refine Ld.own 3 rfl rfl ?_; conv => whnf)
           | (refine Ld.own 4 rfl rfl ?_; conv => whnf)
           | (refine Ld.own 5 rfl rfl ?_; conv => whnf)
           | (refine Ld.own 6 rfl rfl ?_; conv => whnf)
           | (refine Ld.own 7 rfl rfl ?_; conv => whnf)
           | (refine Ld.own 8 rfl rfl ?_; conv => whnf)
           | (refine Ld.own 9 rfl rfl ?_; conv => whnf))
         | (show Sto _ _ _ _; first
           | (refine Sto.lit 0 rfl rfl rfl ?_; conv => whnf)
           | (refine Sto.lit 1 rfl rfl rfl ?_; conv => whnf)
           | (refine Sto.lit 2 rfl rfl rfl ?_; conv => whnf)
           | (refine Sto.lit 3 rfl rfl rfl ?_; conv => whnf)
           | (refine Sto.lit 4 rfl rfl rfl ?_; conv => whnf)
           | (refine Sto.lit 5 rfl rfl rfl ?_; conv => whnf)
           | (refine Sto.lit 6 rfl rfl rfl ?_; conv => whnf)
           | (refine Sto.lit 7 rfl rfl rfl ?_; conv => whnf)
           | (refine Sto.lit 8 rfl rfl rfl ?_; conv => whnf)
           | (refine Sto.lit 9 rfl rfl rfl ?_; conv => whnf)
           | (refine Sto.lit 10 rfl rfl rfl ?_; conv => whnf))
         | (show Both _ _; first
           | (refine Both.mk ?_ ?_ <;> (conv => whnf)))
        all_goals exact ⟨rfl, rfl, (by (iterate 30 (try first | assumption | exact Heap.le_refl _ | refine Heap.le_trans ?_ (by assumption))); first | done | assumption), rfl⟩
      conv => whnf
      repeat intro _
      rename_i h10 L10 hj
      obtain ⟨e111, hle, rfl⟩ := hj
      conv at e111 => lhs; whnf
      subst e111
      have tb3 : Tb h10 := (by (iterate 30 (try first | assumption | refine IsNat.mono ?_ (by assumption) | refine IsRef.mono ?_ (by assumption) | refine Ws.mono ?_ (by assumption) | refine Tb.mono ?_ (by assumption) | refine IsFr.mono ?_ (by assumption) | refine IsQ.mono ?_ (by assumption) | refine IsRat.mono ?_ (by assumption) | refine IsVal.mono ?_ (by assumption) | refine IsTxt.mono ?_ (by assumption) | refine IsNum.mono ?_ (by assumption) | refine IsP.mono ?_ (by assumption) | refine Whs.mono ?_ (by assumption) | refine Toks.mono ?_ (by assumption) | refine IsE.mono ?_ (by assumption) | refine KC.mono ?_ (by assumption) | refine IsK.mono ?_ (by assumption) | refine Nz.mono ?_ (by assumption))); first | done | assumption)
      clear kp1 kp2 kc
      repeat' first
       | (refine codeI.seqN (a := .region 15 _ _) ?_)
       | ((first | refine opsI.step ?_ | refine codeI.step ?_); conv => whnf)
       | (refine ⟨fun _ => HasLe.of_le (Heap.le_refl _), ?_⟩; conv => whnf)
       | (refine ⟨fun _ => HasLe.of_le (by assumption), ?_⟩; conv => whnf)
       | (refine ⟨fun _ => HasLe.cons _, ?_⟩; conv => whnf)
       | (refine ⟨fun hst => (by cases (show true = false from hst)), ?_⟩; conv => whnf)
       | (intro (_ : Nat); conv => whnf)
       | (show DrawN _ _ _ _ _ _; first
         | (refine DrawN.run (by decide +kernel) ?_; conv => whnf)
         | (refine DrawN.run (by decide +kernel) ?_; conv => whnf))
       | (show CallN _ _ _ _ _ _; first
         | (refine CallN.fn rfl (kd _ _ _ _ _ (by (iterate 30 (try first | assumption | refine IsNat.mono ?_ (by assumption) | refine IsRef.mono ?_ (by assumption) | refine Ws.mono ?_ (by assumption) | refine Tb.mono ?_ (by assumption) | refine IsFr.mono ?_ (by assumption) | refine IsQ.mono ?_ (by assumption) | refine IsRat.mono ?_ (by assumption) | refine IsVal.mono ?_ (by assumption) | refine IsTxt.mono ?_ (by assumption) | refine IsNum.mono ?_ (by assumption) | refine IsP.mono ?_ (by assumption) | refine Whs.mono ?_ (by assumption) | refine Toks.mono ?_ (by assumption) | refine IsE.mono ?_ (by assumption) | refine KC.mono ?_ (by assumption) | refine IsK.mono ?_ (by assumption) | refine Nz.mono ?_ (by assumption))); first | done | assumption) (by (iterate 30 (try first | assumption | refine IsNat.mono ?_ (by assumption) | refine IsRef.mono ?_ (by assumption) | refine Ws.mono ?_ (by assumption) | refine Tb.mono ?_ (by assumption) | refine IsFr.mono ?_ (by assumption) | refine IsQ.mono ?_ (by assumption) | refine IsRat.mono ?_ (by assumption) | refine IsVal.mono ?_ (by assumption) | refine IsTxt.mono ?_ (by assumption) | refine IsNum.mono ?_ (by assumption) | refine IsP.mono ?_ (by assumption) | refine Whs.mono ?_ (by assumption) | refine Toks.mono ?_ (by assumption) | refine IsE.mono ?_ (by assumption) | refine KC.mono ?_ (by assumption) | refine IsK.mono ?_ (by assumption) | refine Nz.mono ?_ (by assumption))); first | done | assumption)) (fun v hI lhI hr => ?_); obtain ⟨c7, d7, rfl, w7⟩ := hr; conv => whnf)
         | (refine CallN.fn rfl (kS1 _ (by (iterate 30 (try first | assumption | refine IsNat.mono ?_ (by assumption) | refine IsRef.mono ?_ (by assumption) | refine Ws.mono ?_ (by assumption) | refine Tb.mono ?_ (by assumption) | refine IsFr.mono ?_ (by assumption) | refine IsQ.mono ?_ (by assumption) | refine IsRat.mono ?_ (by assumption) | refine IsVal.mono ?_ (by assumption) | refine IsTxt.mono ?_ (by assumption) | refine IsNum.mono ?_ (by assumption) | refine IsP.mono ?_ (by assumption) | refine Whs.mono ?_ (by assumption) | refine Toks.mono ?_ (by assumption) | refine IsE.mono ?_ (by assumption) | refine KC.mono ?_ (by assumption) | refine IsK.mono ?_ (by assumption) | refine Nz.mono ?_ (by assumption))); first | done | assumption) _ _ (by (iterate 30 (try first | assumption | refine IsNat.mono ?_ (by assumption) | refine IsRef.mono ?_ (by assumption) | refine Ws.mono ?_ (by assumption) | refine Tb.mono ?_ (by assumption) | refine IsFr.mono ?_ (by assumption) | refine IsQ.mono ?_ (by assumption) | refine IsRat.mono ?_ (by assumption) | refine IsVal.mono ?_ (by assumption) | refine IsTxt.mono ?_ (by assumption) | refine IsNum.mono ?_ (by assumption) | refine IsP.mono ?_ (by assumption) | refine Whs.mono ?_ (by assumption) | refine Toks.mono ?_ (by assumption) | refine IsE.mono ?_ (by assumption) | refine KC.mono ?_ (by assumption) | refine IsK.mono ?_ (by assumption) | refine Nz.mono ?_ (by assumption))); first | done | assumption)) (fun v hJ lhJ hr => ?_); obtain ⟨a7, b7, u7, v7, x7, y7, o7, rfl, wa7, wb7, sa7, sb7, g7⟩ := hr; conv => whnf)
         | (refine CallN.fn rfl (kS2 _ (by (iterate 30 (try first | assumption | refine IsNat.mono ?_ (by assumption) | refine IsRef.mono ?_ (by assumption) | refine Ws.mono ?_ (by assumption) | refine Tb.mono ?_ (by assumption) | refine IsFr.mono ?_ (by assumption) | refine IsQ.mono ?_ (by assumption) | refine IsRat.mono ?_ (by assumption) | refine IsVal.mono ?_ (by assumption) | refine IsTxt.mono ?_ (by assumption) | refine IsNum.mono ?_ (by assumption) | refine IsP.mono ?_ (by assumption) | refine Whs.mono ?_ (by assumption) | refine Toks.mono ?_ (by assumption) | refine IsE.mono ?_ (by assumption) | refine KC.mono ?_ (by assumption) | refine IsK.mono ?_ (by assumption) | refine Nz.mono ?_ (by assumption))); first | done | assumption) _ _ (by (iterate 30 (try first | assumption | refine IsNat.mono ?_ (by assumption) | refine IsRef.mono ?_ (by assumption) | refine Ws.mono ?_ (by assumption) | refine Tb.mono ?_ (by assumption) | refine IsFr.mono ?_ (by assumption) | refine IsQ.mono ?_ (by assumption) | refine IsRat.mono ?_ (by assumption) | refine IsVal.mono ?_ (by assumption) | refine IsTxt.mono ?_ (by assumption) | refine IsNum.mono ?_ (by assumption) | refine IsP.mono ?_ (by assumption) | refine Whs.mono ?_ (by assumption) | refine Toks.mono ?_ (by assumption) | refine IsE.mono ?_ (by assumption) | refine KC.mono ?_ (by assumption) | refine IsK.mono ?_ (by assumption) | refine Nz.mono ?_ (by assumption))); first | done | assumption)) (fun v hK lhK hr => ?_); obtain ⟨a8, b8, u8, v8, x8, y8, o8, rfl, wa8, wb8, sa8, sb8, g8⟩ := hr; conv => whnf)
         | (refine CallN.fn rfl (kS3 _ (by (iterate 30 (try first | assumption | refine IsNat.mono ?_ (by assumption) | refine IsRef.mono ?_ (by assumption) | refine Ws.mono ?_ (by assumption) | refine Tb.mono ?_ (by assumption) | refine IsFr.mono ?_ (by assumption) | refine IsQ.mono ?_ (by assumption) | refine IsRat.mono ?_ (by assumption) | refine IsVal.mono ?_ (by assumption) | refine IsTxt.mono ?_ (by assumption) | refine IsNum.mono ?_ (by assumption) | refine IsP.mono ?_ (by assumption) | refine Whs.mono ?_ (by assumption) | refine Toks.mono ?_ (by assumption) | refine IsE.mono ?_ (by assumption) | refine KC.mono ?_ (by assumption) | refine IsK.mono ?_ (by assumption) | refine Nz.mono ?_ (by assumption))); first | done | assumption) _ _ (by (iterate 30 (try first | assumption | refine IsNat.mono ?_ (by assumption) | refine IsRef.mono ?_ (by assumption) | refine Ws.mono ?_ (by assumption) | refine Tb.mono ?_ (by assumption) | refine IsFr.mono ?_ (by assumption) | refine IsQ.mono ?_ (by assumption) | refine IsRat.mono ?_ (by assumption) | refine IsVal.mono ?_ (by assumption) | refine IsTxt.mono ?_ (by assumption) | refine IsNum.mono ?_ (by assumption) | refine IsP.mono ?_ (by assumption) | refine Whs.mono ?_ (by assumption) | refine Toks.mono ?_ (by assumption) | refine IsE.mono ?_ (by assumption) | refine KC.mono ?_ (by assumption) | refine IsK.mono ?_ (by assumption) | refine Nz.mono ?_ (by assumption))); first | done | assumption)) (fun v hN lhN hr => ?_); obtain ⟨a9, b9, u9, v9, x9, y9, o9, rfl, wa9, wb9, sa9, sb9, g9⟩ := hr; conv => whnf))
       | (show WrapN _ _ _; first
         | (refine WrapN.i64 (by omega) (by omega) ?_; conv => whnf)
         | (refine WrapN.u64 (by omega) (by omega) ?_; conv => whnf)
         | (refine WrapN.u32 (by omega) (by omega) ?_; conv => whnf)
         | (refine WrapN.u8 (by omega) (by omega) ?_; conv => whnf))
       | (show cnd _ _ _; first
         | (refine cnd_lt (fun _ => ?_) (fun _ => ?_) <;> first | (exfalso; omega) | (conv => whnf))
         | (refine cnd_le (fun _ => ?_) (fun _ => ?_) <;> first | (exfalso; omega) | (conv => whnf))
         | (refine cnd_eq (fun _ => ?_) (fun _ => ?_) <;> first | (exfalso; omega) | (conv => whnf))
         | (refine cnd_not ?_)
         | (refine cnd_beq (fun _ => ?_) (fun hne => ?_) <;> first | exact absurd rfl hne | (conv => whnf))
         | (refine cnd_dec (fun _ => ?_) (fun _ => ?_) <;> first | (exfalso; omega) | (conv => whnf))
         | (refine cnd_bool (fun hb => ?_) (fun hb => ?_) <;> (first | cases hb | subst hb) <;> (conv => whnf))
         | (refine cnd_bool (fun _ => ?_) (fun _ => ?_) <;> (conv => whnf)))
       | (show LdN _ _ _ _ _; first
         | (refine LdN.own 0 rfl rfl ?_; conv => whnf)
         | (refine LdN.own 1 rfl rfl ?_; conv => whnf)
         | (refine LdN.own 2 rfl rfl ?_; conv => whnf)
         | (refine LdN.own 3 rfl rfl ?_; conv => whnf)
         | (refine LdN.own 4 rfl rfl ?_; conv => whnf)
         | (refine LdN.own 5 rfl rfl ?_; conv => whnf)
         | (refine LdN.own 6 rfl rfl ?_; conv => whnf)
         | (refine LdN.own 7 rfl rfl ?_; conv => whnf)
         | (refine LdN.own 8 rfl rfl ?_; conv => whnf)
         | (refine LdN.own 9 rfl rfl ?_; conv => whnf)
         | (refine LdN.own 10 rfl rfl ?_; conv => whnf)
         | (refine LdN.own 11 rfl rfl ?_; conv => whnf)
         | (refine LdN.own 12 rfl rfl ?_; conv => whnf)
         | (refine LdN.own 13 rfl rfl ?_; conv => whnf)
         | (refine LdN.own 14 rfl rfl ?_; conv => whnf)
         | (refine LdN.own 15 rfl rfl ?_; conv => whnf)
         | (refine LdN.own 16 rfl rfl ?_; conv => whnf)
         | (refine LdN.own 17 rfl rfl ?_; conv => whnf)
         | (refine LdN.own 18 rfl rfl ?_; conv => whnf)
         | (refine LdN.own 19 rfl rfl ?_; conv => whnf)
         | (refine LdN.own 20 rfl rfl ?_; conv => whnf)
         | (refine LdN.own 21 rfl rfl ?_; conv => whnf)
         | (refine LdN.own 22 rfl rfl ?_; conv => whnf)
         | (refine LdN.own 23 rfl rfl ?_; conv => whnf)
         | (refine LdN.own 24 rfl rfl ?_; conv => whnf)
         | (refine LdN.own 25 rfl rfl ?_; conv => whnf)
         | (refine LdN.own 26 rfl rfl ?_; conv => whnf)
         | (refine LdN.own 27 rfl rfl ?_; conv => whnf))
       | (show Ld _ _ _ _; first
         | (refine Ld.own 0 rfl rfl ?_; conv => whnf)
         | (refine Ld.own 1 rfl rfl ?_; conv => whnf)
         | (refine Ld.own 2 rfl rfl ?_; conv => whnf)
         | (refine Ld.own 3 rfl rfl ?_; conv => whnf)
         | (refine Ld.own 4 rfl rfl ?_; conv => whnf)
         | (refine Ld.own 5 rfl rfl ?_; conv => whnf)
         | (refine Ld.own 6 rfl rfl ?_; conv => whnf)
         | (refine Ld.own 7 rfl rfl ?_; conv => whnf)
         | (refine Ld.own 8 rfl rfl ?_; conv => whnf)
         | (refine Ld.own 9 rfl rfl ?_; conv => whnf))
       | (show Sto _ _ _ _; first
         | (refine Sto.lit 0 rfl rfl rfl ?_; conv => whnf)
         | (refine Sto.lit 1 rfl rfl rfl ?_; conv => whnf)
         | (refine Sto.lit 2 rfl rfl rfl ?_; conv => whnf)
         | (refine Sto.lit 3 rfl rfl rfl ?_; conv => whnf)
         | (refine Sto.lit 4 rfl rfl rfl ?_; conv => whnf)
         | (refine Sto.lit 5 rfl rfl rfl ?_; conv => whnf)
         | (refine Sto.lit 6 rfl rfl rfl ?_; conv => whnf)
         | (refine Sto.lit 7 rfl rfl rfl ?_; conv => whnf)
         | (refine Sto.lit 8 rfl rfl rfl ?_; conv => whnf)
         | (refine Sto.lit 9 rfl rfl rfl ?_; conv => whnf)
         | (refine Sto.lit 10 rfl rfl rfl ?_; conv => whnf))
       | (show Both _ _; first
         | (refine Both.mk ?_ ?_ <;> (conv => whnf)))
      have kp := fun h w w' w3 w4 => span_ct h u7 v7 x7 y7 u8 v8 x8 y8 a7 b7 a8 b8 w w' w3 w4 sa7 sb7 sa8 sb8
      have two : ((2 : Int) : Rat) = 2 := by decide +kernel
      have ki := fun h => Int_ct h 2 (by decide) (by decide)
      have s2 := sr_two
      obtain ⟨r2, hr2⟩ : ∃ r, r = ((2 : Int) : Rat) := ⟨_, rfl⟩
      rw [← hr2] at two ki s2
      clear hr2
      have km := fun h a b c d l (zl : Sr 256 l) w w' => Prod_ct h a b c d r2 l w w' (s2.mono (by decide)) (zl.mono (by decide))
      have kc := fun (q1 : o7 = true) (q2 : o8 = true) (q3 : o9 = true) h c d c' d' l u (hl : l ≤ a7 * a8 ∧ l ≤ a7 * b8 ∧ l ≤ b7 * a8 ∧ l ≤ b7 * b8) (hu : a7 * a8 ≤ u ∧ a7 * b8 ≤ u ∧ b7 * a8 ≤ u ∧ b7 * b8 ≤ u) (zl : Sr 256 l) (zu : Sr 256 u) w w' w3 w4 => (common_ct h c d c' d' u9 v9 x9 y9 (r2 * l) (r2 * u) a9 b9 w w' w3 w4 ((sr_mul s2 zl).mono (by decide)) ((sr_mul s2 zu).mono (by decide)) (sa9.mono (by decide)) (sb9.mono (by decide))).mono fun v h' _ r => (show v = .bool true from by rw [r, two, dec_true (An.sin_dbl (g7 q1) (g8 q2) (hz ▸ g9 q3) hl.1 hl.2.1 hl.2.2.1 hl.2.2.2 hu.1 hu.2.1 hu.2.2.1 hu.2.2.2)])
      clear two kS1 kS2 kS3 kd
      refine SeqN.go ?_
      conv => whnf
      repeat ((first | refine opsI.step ?_ | refine codeI.step ?_); conv => whnf)
      repeat' first
       | (show SeqN _ _ _ _ _ _ _; first
         | (refine SeqN.go ?_; conv => whnf))
       | (show DrawN _ _ _ _ _ _; first
         | (refine DrawN.run (by decide +kernel) ?_; conv => whnf)
         | (refine DrawN.run (by decide +kernel) ?_; conv => whnf))
       | (show CallN _ _ _ _ _ _; first
         | (refine CallN.fn rfl (kp _ (by (iterate 30 (try first | assumption | refine IsNat.mono ?_ (by assumption) | refine IsRef.mono ?_ (by assumption) | refine Ws.mono ?_ (by assumption) | refine Tb.mono ?_ (by assumption) | refine IsFr.mono ?_ (by assumption) | refine IsQ.mono ?_ (by assumption) | refine IsRat.mono ?_ (by assumption) | refine IsVal.mono ?_ (by assumption) | refine IsTxt.mono ?_ (by assumption) | refine IsNum.mono ?_ (by assumption) | refine IsP.mono ?_ (by assumption) | refine Whs.mono ?_ (by assumption) | refine Toks.mono ?_ (by assumption) | refine IsE.mono ?_ (by assumption) | refine KC.mono ?_ (by assumption) | refine IsK.mono ?_ (by assumption) | refine Nz.mono ?_ (by assumption))); first | done | assumption) (by (iterate 30 (try first | assumption | refine IsNat.mono ?_ (by assumption) | refine IsRef.mono ?_ (by assumption) | refine Ws.mono ?_ (by assumption) | refine Tb.mono ?_ (by assumption) | refine IsFr.mono ?_ (by assumption) | refine IsQ.mono ?_ (by assumption) | refine IsRat.mono ?_ (by assumption) | refine IsVal.mono ?_ (by assumption) | refine IsTxt.mono ?_ (by assumption) | refine IsNum.mono ?_ (by assumption) | refine IsP.mono ?_ (by assumption) | refine Whs.mono ?_ (by assumption) | refine Toks.mono ?_ (by assumption) | refine IsE.mono ?_ (by assumption) | refine KC.mono ?_ (by assumption) | refine IsK.mono ?_ (by assumption) | refine Nz.mono ?_ (by assumption))); first | done | assumption) (by (iterate 30 (try first | assumption | refine IsNat.mono ?_ (by assumption) | refine IsRef.mono ?_ (by assumption) | refine Ws.mono ?_ (by assumption) | refine Tb.mono ?_ (by assumption) | refine IsFr.mono ?_ (by assumption) | refine IsQ.mono ?_ (by assumption) | refine IsRat.mono ?_ (by assumption) | refine IsVal.mono ?_ (by assumption) | refine IsTxt.mono ?_ (by assumption) | refine IsNum.mono ?_ (by assumption) | refine IsP.mono ?_ (by assumption) | refine Whs.mono ?_ (by assumption) | refine Toks.mono ?_ (by assumption) | refine IsE.mono ?_ (by assumption) | refine KC.mono ?_ (by assumption) | refine IsK.mono ?_ (by assumption) | refine Nz.mono ?_ (by assumption))); first | done | assumption) (by (iterate 30 (try first | assumption | refine IsNat.mono ?_ (by assumption) | refine IsRef.mono ?_ (by assumption) | refine Ws.mono ?_ (by assumption) | refine Tb.mono ?_ (by assumption) | refine IsFr.mono ?_ (by assumption) | refine IsQ.mono ?_ (by assumption) | refine IsRat.mono ?_ (by assumption) | refine IsVal.mono ?_ (by assumption) | refine IsTxt.mono ?_ (by assumption) | refine IsNum.mono ?_ (by assumption) | refine IsP.mono ?_ (by assumption) | refine Whs.mono ?_ (by assumption) | refine Toks.mono ?_ (by assumption) | refine IsE.mono ?_ (by assumption) | refine KC.mono ?_ (by assumption) | refine IsK.mono ?_ (by assumption) | refine Nz.mono ?_ (by assumption))); first | done | assumption)) (fun v hS lhS hr => ?_); obtain ⟨l, u, c8, d8, c9, d9, rfl, w8, w9, zl, zu, hl, hu⟩ := hr; conv => whnf)
         | (refine CallN.fn rfl (ki _) (fun v hT lhT hr => ?_); obtain ⟨c4, d4, rfl, w4⟩ := hr; conv => whnf))
       | ((first | refine opsI.step ?_ | refine codeI.step ?_); conv => whnf)
       | (refine ⟨fun _ => HasLe.of_le (Heap.le_refl _), ?_⟩; conv => whnf)
       | (refine ⟨fun _ => HasLe.of_le (by assumption), ?_⟩; conv => whnf)
       | (refine ⟨fun _ => HasLe.cons _, ?_⟩; conv => whnf)
       | (refine ⟨fun hst => (by cases (show true = false from hst)), ?_⟩; conv => whnf)
       | (intro (_ : Nat); conv => whnf)
       | (show WrapN _ _ _; first
         | (refine WrapN.i64 (by omega) (by omega) ?_; conv => whnf)
         | (refine WrapN.u64 (by omega) (by omega) ?_; conv => whnf)
         | (refine WrapN.u32 (by omega) (by omega) ?_; conv => whnf)
         | (refine WrapN.u8 (by omega) (by omega) ?_; conv => whnf))
       | (show cnd _ _ _; first
         | (refine cnd_lt (fun _ => ?_) (fun _ => ?_) <;> first | (exfalso; omega) | (conv => whnf))
         | (refine cnd_le (fun _ => ?_) (fun _ => ?_) <;> first | (exfalso; omega) | (conv => whnf))
         | (refine cnd_eq (fun _ => ?_) (fun _ => ?_) <;> first | (exfalso; omega) | (conv => whnf))
         | (refine cnd_not ?_)
         | (refine cnd_beq (fun _ => ?_) (fun hne => ?_) <;> first | exact absurd rfl hne | (conv => whnf))
         | (refine cnd_dec (fun _ => ?_) (fun _ => ?_) <;> first | (exfalso; omega) | (conv => whnf))
         | (refine cnd_bool (fun hb => ?_) (fun hb => ?_) <;> (first | cases hb | subst hb) <;> (conv => whnf))
         | (refine cnd_bool (fun _ => ?_) (fun _ => ?_) <;> (conv => whnf)))
       | (show LdN _ _ _ _ _; first
         | (refine LdN.own 0 rfl rfl ?_; conv => whnf)
         | (refine LdN.own 1 rfl rfl ?_; conv => whnf)
         | (refine LdN.own 2 rfl rfl ?_; conv => whnf)
         | (refine LdN.own 3 rfl rfl ?_; conv => whnf)
         | (refine LdN.own 4 rfl rfl ?_; conv => whnf)
         | (refine LdN.own 5 rfl rfl ?_; conv => whnf)
         | (refine LdN.own 6 rfl rfl ?_; conv => whnf)
         | (refine LdN.own 7 rfl rfl ?_; conv => whnf)
         | (refine LdN.own 8 rfl rfl ?_; conv => whnf)
         | (refine LdN.own 9 rfl rfl ?_; conv => whnf)
         | (refine LdN.own 10 rfl rfl ?_; conv => whnf)
         | (refine LdN.own 11 rfl rfl ?_; conv => whnf)
         | (refine LdN.own 12 rfl rfl ?_; conv => whnf)
         | (refine LdN.own 13 rfl rfl ?_; conv => whnf)
         | (refine LdN.own 14 rfl rfl ?_; conv => whnf)
         | (refine LdN.own 15 rfl rfl ?_; conv => whnf)
         | (refine LdN.own 16 rfl rfl ?_; conv => whnf)
         | (refine LdN.own 17 rfl rfl ?_; conv => whnf)
         | (refine LdN.own 18 rfl rfl ?_; conv => whnf)
         | (refine LdN.own 19 rfl rfl ?_; conv => whnf)
         | (refine LdN.own 20 rfl rfl ?_; conv => whnf)
         | (refine LdN.own 21 rfl rfl ?_; conv => whnf)
         | (refine LdN.own 22 rfl rfl ?_; conv => whnf)
         | (refine LdN.own 23 rfl rfl ?_; conv => whnf)
         | (refine LdN.own 24 rfl rfl ?_; conv => whnf)
         | (refine LdN.own 25 rfl rfl ?_; conv => whnf)
         | (refine LdN.own 26 rfl rfl ?_; conv => whnf)
         | (refine LdN.own 27 rfl rfl ?_; conv => whnf))
       | (show Ld _ _ _ _; first
         | (refine Ld.own 0 rfl rfl ?_; conv => whnf)
         | (refine Ld.own 1 rfl rfl ?_; conv => whnf)
         | (refine Ld.own 2 rfl rfl ?_; conv => whnf)
         | (refine Ld.own 3 rfl rfl ?_; conv => whnf)
         | (refine Ld.own 4 rfl rfl ?_; conv => whnf)
         | (refine Ld.own 5 rfl rfl ?_; conv => whnf)
         | (refine Ld.own 6 rfl rfl ?_; conv => whnf)
         | (refine Ld.own 7 rfl rfl ?_; conv => whnf)
         | (refine Ld.own 8 rfl rfl ?_; conv => whnf)
         | (refine Ld.own 9 rfl rfl ?_; conv => whnf))
       | (show Sto _ _ _ _; first
         | (refine Sto.lit 0 rfl rfl rfl ?_; conv => whnf)
         | (refine Sto.lit 1 rfl rfl rfl ?_; conv => whnf)
         | (refine Sto.lit 2 rfl rfl rfl ?_; conv => whnf)
         | (refine Sto.lit 3 rfl rfl rfl ?_; conv => whnf)
         | (refine Sto.lit 4 rfl rfl rfl ?_; conv => whnf)
         | (refine Sto.lit 5 rfl rfl rfl ?_; conv => whnf)
         | (refine Sto.lit 6 rfl rfl rfl ?_; conv => whnf)
         | (refine Sto.lit 7 rfl rfl rfl ?_; conv => whnf)
         | (refine Sto.lit 8 rfl rfl rfl ?_; conv => whnf)
         | (refine Sto.lit 9 rfl rfl rfl ?_; conv => whnf)
         | (refine Sto.lit 10 rfl rfl rfl ?_; conv => whnf))
       | (show Both _ _; first
         | (refine Both.mk ?_ ?_ <;> (conv => whnf)))
      all_goals try
        refine CallN.fn rfl (km _ _ _ _ _ l zl (by (iterate 30 (try first | assumption | refine IsNat.mono ?_ (by assumption) | refine IsRef.mono ?_ (by assumption) | refine Ws.mono ?_ (by assumption) | refine Tb.mono ?_ (by assumption) | refine IsFr.mono ?_ (by assumption) | refine IsQ.mono ?_ (by assumption) | refine IsRat.mono ?_ (by assumption) | refine IsVal.mono ?_ (by assumption) | refine IsTxt.mono ?_ (by assumption) | refine IsNum.mono ?_ (by assumption) | refine IsP.mono ?_ (by assumption) | refine Whs.mono ?_ (by assumption) | refine Toks.mono ?_ (by assumption) | refine IsE.mono ?_ (by assumption) | refine KC.mono ?_ (by assumption) | refine IsK.mono ?_ (by assumption) | refine Nz.mono ?_ (by assumption))); first | done | assumption) (by (iterate 30 (try first | assumption | refine IsNat.mono ?_ (by assumption) | refine IsRef.mono ?_ (by assumption) | refine Ws.mono ?_ (by assumption) | refine Tb.mono ?_ (by assumption) | refine IsFr.mono ?_ (by assumption) | refine IsQ.mono ?_ (by assumption) | refine IsRat.mono ?_ (by assumption) | refine IsVal.mono ?_ (by assumption) | refine IsTxt.mono ?_ (by assumption) | refine IsNum.mono ?_ (by assumption) | refine IsP.mono ?_ (by assumption) | refine Whs.mono ?_ (by assumption) | refine Toks.mono ?_ (by assumption) | refine IsE.mono ?_ (by assumption) | refine KC.mono ?_ (by assumption) | refine IsK.mono ?_ (by assumption) | refine Nz.mono ?_ (by assumption))); first | done | assumption)) (fun v hU lhU hr => ?_)
        obtain ⟨c5, d5, rfl, w5⟩ := hr
        conv => whnf
        refine ⟨fun _ => HasLe.of_le lhU, ?_⟩
        conv => whnf
        refine CallN.fn rfl (ki _) (fun v hV lhV hr => ?_)
        obtain ⟨c6, d6, rfl, w6⟩ := hr
        conv => whnf
        refine ⟨fun _ => HasLe.of_le lhV, ?_⟩
        conv => whnf
        refine CallN.fn rfl (km _ _ _ _ _ u zu (by (iterate 30 (try first | assumption | refine IsNat.mono ?_ (by assumption) | refine IsRef.mono ?_ (by assumption) | refine Ws.mono ?_ (by assumption) | refine Tb.mono ?_ (by assumption) | refine IsFr.mono ?_ (by assumption) | refine IsQ.mono ?_ (by assumption) | refine IsRat.mono ?_ (by assumption) | refine IsVal.mono ?_ (by assumption) | refine IsTxt.mono ?_ (by assumption) | refine IsNum.mono ?_ (by assumption) | refine IsP.mono ?_ (by assumption) | refine Whs.mono ?_ (by assumption) | refine Toks.mono ?_ (by assumption) | refine IsE.mono ?_ (by assumption) | refine KC.mono ?_ (by assumption) | refine IsK.mono ?_ (by assumption) | refine Nz.mono ?_ (by assumption))); first | done | assumption) (by (iterate 30 (try first | assumption | refine IsNat.mono ?_ (by assumption) | refine IsRef.mono ?_ (by assumption) | refine Ws.mono ?_ (by assumption) | refine Tb.mono ?_ (by assumption) | refine IsFr.mono ?_ (by assumption) | refine IsQ.mono ?_ (by assumption) | refine IsRat.mono ?_ (by assumption) | refine IsVal.mono ?_ (by assumption) | refine IsTxt.mono ?_ (by assumption) | refine IsNum.mono ?_ (by assumption) | refine IsP.mono ?_ (by assumption) | refine Whs.mono ?_ (by assumption) | refine Toks.mono ?_ (by assumption) | refine IsE.mono ?_ (by assumption) | refine KC.mono ?_ (by assumption) | refine IsK.mono ?_ (by assumption) | refine Nz.mono ?_ (by assumption))); first | done | assumption)) (fun v hW lhW hr => ?_)
        obtain ⟨c7, d7, rfl, w7⟩ := hr
        conv => whnf
        refine ⟨fun _ => HasLe.of_le lhW, ?_⟩
        conv => whnf
        refine CallN.fn rfl (kc rfl rfl rfl _ _ _ _ _ l u hl hu zl zu (by (iterate 30 (try first | assumption | refine IsNat.mono ?_ (by assumption) | refine IsRef.mono ?_ (by assumption) | refine Ws.mono ?_ (by assumption) | refine Tb.mono ?_ (by assumption) | refine IsFr.mono ?_ (by assumption) | refine IsQ.mono ?_ (by assumption) | refine IsRat.mono ?_ (by assumption) | refine IsVal.mono ?_ (by assumption) | refine IsTxt.mono ?_ (by assumption) | refine IsNum.mono ?_ (by assumption) | refine IsP.mono ?_ (by assumption) | refine Whs.mono ?_ (by assumption) | refine Toks.mono ?_ (by assumption) | refine IsE.mono ?_ (by assumption) | refine KC.mono ?_ (by assumption) | refine IsK.mono ?_ (by assumption) | refine Nz.mono ?_ (by assumption))); first | done | assumption) (by (iterate 30 (try first | assumption | refine IsNat.mono ?_ (by assumption) | refine IsRef.mono ?_ (by assumption) | refine Ws.mono ?_ (by assumption) | refine Tb.mono ?_ (by assumption) | refine IsFr.mono ?_ (by assumption) | refine IsQ.mono ?_ (by assumption) | refine IsRat.mono ?_ (by assumption) | refine IsVal.mono ?_ (by assumption) | refine IsTxt.mono ?_ (by assumption) | refine IsNum.mono ?_ (by assumption) | refine IsP.mono ?_ (by assumption) | refine Whs.mono ?_ (by assumption) | refine Toks.mono ?_ (by assumption) | refine IsE.mono ?_ (by assumption) | refine KC.mono ?_ (by assumption) | refine IsK.mono ?_ (by assumption) | refine Nz.mono ?_ (by assumption))); first | done | assumption) (by (iterate 30 (try first | assumption | refine IsNat.mono ?_ (by assumption) | refine IsRef.mono ?_ (by assumption) | refine Ws.mono ?_ (by assumption) | refine Tb.mono ?_ (by assumption) | refine IsFr.mono ?_ (by assumption) | refine IsQ.mono ?_ (by assumption) | refine IsRat.mono ?_ (by assumption) | refine IsVal.mono ?_ (by assumption) | refine IsTxt.mono ?_ (by assumption) | refine IsNum.mono ?_ (by assumption) | refine IsP.mono ?_ (by assumption) | refine Whs.mono ?_ (by assumption) | refine Toks.mono ?_ (by assumption) | refine IsE.mono ?_ (by assumption) | refine KC.mono ?_ (by assumption) | refine IsK.mono ?_ (by assumption) | refine Nz.mono ?_ (by assumption))); first | done | assumption) (by (iterate 30 (try first | assumption | refine IsNat.mono ?_ (by assumption) | refine IsRef.mono ?_ (by assumption) | refine Ws.mono ?_ (by assumption) | refine Tb.mono ?_ (by assumption) | refine IsFr.mono ?_ (by assumption) | refine IsQ.mono ?_ (by assumption) | refine IsRat.mono ?_ (by assumption) | refine IsVal.mono ?_ (by assumption) | refine IsTxt.mono ?_ (by assumption) | refine IsNum.mono ?_ (by assumption) | refine IsP.mono ?_ (by assumption) | refine Whs.mono ?_ (by assumption) | refine Toks.mono ?_ (by assumption) | refine IsE.mono ?_ (by assumption) | refine KC.mono ?_ (by assumption) | refine IsK.mono ?_ (by assumption) | refine Nz.mono ?_ (by assumption))); first | done | assumption)) (fun v hX lhX hr => ?_)
        obtain rfl := hr
        conv => whnf
        refine ⟨fun _ => HasLe.of_le lhX, ?_⟩
        conv => whnf
      clear km ki kp kc
      repeat' first
       | (show SeqN _ _ _ _ _ _ _; first
         | (refine SeqN.go ?_; conv => whnf))
       | (show CallN _ _ _ _ _ _; first
         | (refine CallN.fn rfl (counts_ct _ (by (iterate 30 (try first | assumption | refine IsNat.mono ?_ (by assumption) | refine IsRef.mono ?_ (by assumption) | refine Ws.mono ?_ (by assumption) | refine Tb.mono ?_ (by assumption) | refine IsFr.mono ?_ (by assumption) | refine IsQ.mono ?_ (by assumption) | refine IsRat.mono ?_ (by assumption) | refine IsVal.mono ?_ (by assumption) | refine IsTxt.mono ?_ (by assumption) | refine IsNum.mono ?_ (by assumption) | refine IsP.mono ?_ (by assumption) | refine Whs.mono ?_ (by assumption) | refine Toks.mono ?_ (by assumption) | refine IsE.mono ?_ (by assumption) | refine KC.mono ?_ (by assumption) | refine IsK.mono ?_ (by assumption) | refine Nz.mono ?_ (by assumption))); first | done | assumption)) (fun v hY lhY hr => ?_); obtain rfl := hr; conv => whnf))
       | ((first | refine opsI.step ?_ | refine codeI.step ?_); conv => whnf)
       | (refine ⟨fun _ => HasLe.of_le (Heap.le_refl _), ?_⟩; conv => whnf)
       | (refine ⟨fun _ => HasLe.of_le (by assumption), ?_⟩; conv => whnf)
       | (refine ⟨fun _ => HasLe.cons _, ?_⟩; conv => whnf)
       | (refine ⟨fun hst => (by cases (show true = false from hst)), ?_⟩; conv => whnf)
       | (intro (_ : Nat); conv => whnf)
       | (show WrapN _ _ _; first
         | (refine WrapN.i64 (by omega) (by omega) ?_; conv => whnf)
         | (refine WrapN.u64 (by omega) (by omega) ?_; conv => whnf)
         | (refine WrapN.u32 (by omega) (by omega) ?_; conv => whnf)
         | (refine WrapN.u8 (by omega) (by omega) ?_; conv => whnf))
       | (show cnd _ _ _; first
         | (refine cnd_lt (fun _ => ?_) (fun _ => ?_) <;> first | (exfalso; omega) | (conv => whnf))
         | (refine cnd_le (fun _ => ?_) (fun _ => ?_) <;> first | (exfalso; omega) | (conv => whnf))
         | (refine cnd_eq (fun _ => ?_) (fun _ => ?_) <;> first | (exfalso; omega) | (conv => whnf))
         | (refine cnd_not ?_)
         | (refine cnd_beq (fun _ => ?_) (fun hne => ?_) <;> first | exact absurd rfl hne | (conv => whnf))
         | (refine cnd_dec (fun _ => ?_) (fun _ => ?_) <;> first | (exfalso; omega) | (conv => whnf))
         | (refine cnd_bool (fun hb => ?_) (fun hb => ?_) <;> (first | cases hb | subst hb) <;> (conv => whnf))
         | (refine cnd_bool (fun _ => ?_) (fun _ => ?_) <;> (conv => whnf)))
       | (show LdN _ _ _ _ _; first
         | (refine LdN.own 0 rfl rfl ?_; conv => whnf)
         | (refine LdN.own 1 rfl rfl ?_; conv => whnf)
         | (refine LdN.own 2 rfl rfl ?_; conv => whnf)
         | (refine LdN.own 3 rfl rfl ?_; conv => whnf)
         | (refine LdN.own 4 rfl rfl ?_; conv => whnf)
         | (refine LdN.own 5 rfl rfl ?_; conv => whnf)
         | (refine LdN.own 6 rfl rfl ?_; conv => whnf)
         | (refine LdN.own 7 rfl rfl ?_; conv => whnf)
         | (refine LdN.own 8 rfl rfl ?_; conv => whnf)
         | (refine LdN.own 9 rfl rfl ?_; conv => whnf)
         | (refine LdN.own 10 rfl rfl ?_; conv => whnf)
         | (refine LdN.own 11 rfl rfl ?_; conv => whnf)
         | (refine LdN.own 12 rfl rfl ?_; conv => whnf)
         | (refine LdN.own 13 rfl rfl ?_; conv => whnf)
         | (refine LdN.own 14 rfl rfl ?_; conv => whnf)
         | (refine LdN.own 15 rfl rfl ?_; conv => whnf)
         | (refine LdN.own 16 rfl rfl ?_; conv => whnf)
         | (refine LdN.own 17 rfl rfl ?_; conv => whnf)
         | (refine LdN.own 18 rfl rfl ?_; conv => whnf)
         | (refine LdN.own 19 rfl rfl ?_; conv => whnf)
         | (refine LdN.own 20 rfl rfl ?_; conv => whnf)
         | (refine LdN.own 21 rfl rfl ?_; conv => whnf)
         | (refine LdN.own 22 rfl rfl ?_; conv => whnf)
         | (refine LdN.own 23 rfl rfl ?_; conv => whnf)
         | (refine LdN.own 24 rfl rfl ?_; conv => whnf)
         | (refine LdN.own 25 rfl rfl ?_; conv => whnf)
         | (refine LdN.own 26 rfl rfl ?_; conv => whnf)
         | (refine LdN.own 27 rfl rfl ?_; conv => whnf))
       | (show Ld _ _ _ _; first
         | (refine Ld.own 0 rfl rfl ?_; conv => whnf)
         | (refine Ld.own 1 rfl rfl ?_; conv => whnf)
         | (refine Ld.own 2 rfl rfl ?_; conv => whnf)
         | (refine Ld.own 3 rfl rfl ?_; conv => whnf)
         | (refine Ld.own 4 rfl rfl ?_; conv => whnf)
         | (refine Ld.own 5 rfl rfl ?_; conv => whnf)
         | (refine Ld.own 6 rfl rfl ?_; conv => whnf)
         | (refine Ld.own 7 rfl rfl ?_; conv => whnf)
         | (refine Ld.own 8 rfl rfl ?_; conv => whnf)
         | (refine Ld.own 9 rfl rfl ?_; conv => whnf))
       | (show Sto _ _ _ _; first
         | (refine Sto.lit 0 rfl rfl rfl ?_; conv => whnf)
         | (refine Sto.lit 1 rfl rfl rfl ?_; conv => whnf)
         | (refine Sto.lit 2 rfl rfl rfl ?_; conv => whnf)
         | (refine Sto.lit 3 rfl rfl rfl ?_; conv => whnf)
         | (refine Sto.lit 4 rfl rfl rfl ?_; conv => whnf)
         | (refine Sto.lit 5 rfl rfl rfl ?_; conv => whnf)
         | (refine Sto.lit 6 rfl rfl rfl ?_; conv => whnf)
         | (refine Sto.lit 7 rfl rfl rfl ?_; conv => whnf)
         | (refine Sto.lit 8 rfl rfl rfl ?_; conv => whnf)
         | (refine Sto.lit 9 rfl rfl rfl ?_; conv => whnf)
         | (refine Sto.lit 10 rfl rfl rfl ?_; conv => whnf))
       | (show DrawN _ _ _ _ _ _; first
         | (refine DrawN.run (by decide +kernel) ?_; conv => whnf))
       | (show Both _ _; first
         | (refine Both.mk ?_ ?_ <;> (conv => whnf)))
      all_goals exact RetN.all rfl
end Go.Proofs.YtdemgbmndijkkaaGreatDoor