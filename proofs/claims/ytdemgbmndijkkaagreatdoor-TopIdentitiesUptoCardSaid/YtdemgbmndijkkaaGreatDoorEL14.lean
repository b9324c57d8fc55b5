/- Package elem: sine and cosine. -/
import Derived.Test.YtdemgbmndijkkaaGreatDoorEL13
set_option linter.unusedVariables false
set_option linter.unusedSimpArgs false
namespace Go.Proofs.YtdemgbmndijkkaaGreatDoor
open Go Go.Vc Go.Dig
theorem sg_lt (q : Rat) : sg q = decide (q < 0) := by
  unfold sg
  refine decide_eq_decide.2 ?_
  have h : 0 ≤ q.num ↔ 0 ≤ q := Rat.num_nonneg
  constructor
  · intro g
    rcases (Rat.le_total : 0 ≤ q ∨ q ≤ 0) with k | k
    · have := h.2 k; omega
    · by_cases e : q = 0
      · rw [e] at g; exact absurd g (by decide)
      · grind
  · intro g
    by_cases k : q.num < 0
    · exact k
    · have := h.1 (by omega); grind
/-- two spans -/
def Two (h : Heap) (v : Value) (s c : Rat × Rat) : Prop := ∃ v1 v2, v = .tuple #[v1, v2] ∧ BrR h v1 s.1 s.2 ∧ BrR h v2 c.1 c.2
theorem BrR.open' {h : Heap} {v : Value} {lo hi : Rat} (w : BrR h v lo hi) : ∃ a b c d : Sl, v = .agg #[.bool (sg lo), a.val, b.val, .bool (sg hi), c.val, d.val] ∧ IsRat h a b lo ∧ IsRat h c d hi ∧ fits lo ∧ fits hi := w
set_option maxRecDepth 20000 in
set_option maxHeartbeats 40000000 in
theorem both_ct (h : Heap) (tb : Tb h) (a b : Sl) (x f g kq y1 y2 lo hi : Rat) (w Y Z : Nat) (k : Int) (xx : Int) (hxx : xx = w) (hx : IsRat h a b x) (fx : fits x) (h1 : 64 ≤ w) (h2 : w ≤ 192)
    (ef : f = mkQ false (An.piA w).1 (2 ^ (w + 1))) (eg : g = mkQ false (An.piA w).2 (2 ^ (w + 1))) (n : RestN x f g kq y1 y2 lo hi w Y Z k) :
    Fn0 T F.elem_both [.agg #[.bool (sg x), a.val, b.val], .int .i64 xx] h fun v h' =>
      Two h' v (An.selS (k % 4).toNat (An.cAt (sg lo) (sg hi) Y Z w) (An.sAt true (sg lo) Y w, An.sAt false (sg hi) Z w)) (An.selC (k % 4).toNat (An.cAt (sg lo) (sg hi) Y Z w) (An.sAt true (sg lo) Y w, An.sAt false (sg hi) Z w)) := by
  subst hxx
  have kr := fun h tb hx => rest_ct h tb a b x f g kq y1 y2 lo hi w Y Z k (w : Int) rfl hx fx h1 h2 ef eg n
  have ks := fun h tb a b c d u v => sine_ct h tb a b c d lo hi w Y Z (w : Int) rfl u v n.q9 n.q10 n.g1 n.g2 (by omega)
  have kc := fun h tb a b c d u v => cosine_ct h tb a b c d lo hi w Y Z (w : Int) rfl u v n.q9 n.q10 n.g1 n.g2 (by omega)
  obtain ⟨C, hC⟩ : ∃ C, C = An.cAt (sg lo) (sg hi) Y Z w := ⟨_, rfl⟩
  obtain ⟨S1, hS1⟩ : ∃ S, S = An.sAt true (sg lo) Y w := ⟨_, rfl⟩
  obtain ⟨S2, hS2⟩ : ∃ S, S = An.sAt false (sg hi) Z w := ⟨_, rfl⟩
  rw [← hS1, ← hS2] at ks ⊢
  rw [← hC] at kc ⊢
  obtain ⟨C1, C2⟩ := C
  clear hC hS1 hS2 ef eg n
  obtain ⟨j, hj⟩ : ∃ j, j = k % 4 := ⟨_, rfl⟩
  rw [← hj] at kr ⊢
  have hj4 : j = 0 ∨ j = 1 ∨ j = 2 ∨ j = 3 := by omega
  clear hj
  rcases hj4 with rfl | rfl | rfl | rfl
  all_goals
    refine fn0_of_codeI ok D.elem_both rfl ?_
    conv => whnf
  all_goals (repeat' first
     | (show DrawN _ _ _ _ _ _; first
       | (refine DrawN.run (by decide +kernel) ?_; conv => whnf)
       | (refine DrawN.own [_, _] (by exact List.Sublist.cons_cons _ (List.Sublist.cons_cons _ (List.nil_sublist _))) (by decide +kernel) ?_; conv => whnf))
     | (refine ⟨fun _ => ⟨HasLe.of_le (by first | exact Heap.le_refl _ | assumption | exact Heap.le_trans (by assumption) (by assumption)), by repeat first | exact List.nil_sublist _ | apply List.Sublist.cons_cons | apply List.Sublist.cons⟩, ?_⟩; conv => whnf)
     | ((first | refine opsI.step ?_ | refine codeI.step ?_); conv => whnf)
     | (refine ⟨fun _ => HasLe.of_le (by assumption), ?_⟩; conv => whnf)
     | (refine ⟨fun _ => HasLe.cons _, ?_⟩; conv => whnf)
     | (refine ⟨fun hst => (by cases (show true = false from hst)), ?_⟩; conv => whnf)
     | (intro (_ : Nat); conv => whnf)
     | (show LdN _ _ _ _ _; first
       | (refine LdN.ownAt 0 rfl rfl ?_; conv => whnf)
       | (refine LdN.ownAt 1 rfl rfl ?_; conv => whnf)
       | (refine LdN.ownAt 2 rfl rfl ?_; conv => whnf)
       | (refine LdN.own 3 rfl rfl ?_; conv => whnf)
       | (refine LdN.own 4 rfl rfl ?_; conv => whnf))
     | (show CallN _ _ _ _ _ _; first
       | (refine CallN.fn rfl (kr _ (by assumption) (by assumption)) (fun v h' hl hr => ?_); obtain ⟨v', rfl, a1, b1, c1, d1, rfl, hr1, hr2, hf1, hf2⟩ := hr; conv => whnf)
       | (refine CallN.fn rfl (ks _ (by (iterate 30 (try first | assumption | refine Tb.mono ?_ (by assumption))); first | done | assumption) _ _ _ _ (hr1.mono (by (iterate 30 (try first | assumption | exact Heap.le_refl _)); first | done | assumption)) (hr2.mono (by (iterate 30 (try first | assumption | exact Heap.le_refl _)); first | done | assumption))) (fun v h' hl hr => ?_); obtain ⟨a2, b2, c2, d2, rfl, hs1, hs2, fs1, fs2⟩ := hr; conv => whnf)
       | (refine CallN.fn rfl (kc _ (by (iterate 30 (try first | assumption | refine Tb.mono ?_ (by assumption))); first | done | assumption) _ _ _ _ (hr1.mono (by assumption)) (hr2.mono (by assumption))) (fun v h' hl hr => ?_); obtain ⟨a3, b3, c3, d3, rfl, hc1, hc2, fc1, fc2⟩ := hr; conv => whnf)
       | (refine CallN.fn rfl (minus_ct _ (by (iterate 30 (try first | assumption | refine Tb.mono ?_ (by assumption))); first | done | assumption) _ _ _ _ _ _ (hs1.mono (by assumption)) (hs2.mono (by assumption)) fs1 fs2) (fun v h' hl hr => ?_); obtain ⟨a4, b4, c4, d4, rfl, hm1, hm2, fm1, fm2⟩ := hr; conv => whnf)
       | (refine CallN.fn rfl (minus_ct _ (by (iterate 30 (try first | assumption | refine Tb.mono ?_ (by assumption))); first | done | assumption) _ _ _ _ _ _ (hc1.mono (by (iterate 30 (try first | assumption | exact Heap.le_refl _)); first | done | assumption)) (hc2.mono (by (iterate 30 (try first | assumption | exact Heap.le_refl _)); first | done | assumption)) fc1 fc2) (fun v h' hl hr => ?_); obtain ⟨a5, b5, c5, d5, rfl, hn1, hn2, fn1, fn2⟩ := hr; conv => whnf))
     | (show cnd _ _ _; first
       | (refine cnd_eq (fun _ => ?_) (fun _ => ?_) <;> first | (exfalso; omega) | (conv => whnf)))
     | (show Sto _ _ _ _; first
       | (refine Sto.lit 0 rfl rfl rfl ?_; conv => whnf)
       | (refine Sto.lit 1 rfl rfl rfl ?_; conv => whnf)
       | (refine Sto.lit 3 rfl rfl rfl ?_; conv => whnf)
       | (refine Sto.lit 4 rfl rfl rfl ?_; conv => whnf))
     | (show Both _ _; first
       | (refine Both.mk ?_ ?_ <;> (conv => whnf))))
  all_goals exact RetN.all ⟨_, _, rfl, ⟨_, _, _, _, rfl, (by (iterate 30 (try first | assumption | refine IsRat.mono ?_ (by assumption))); first | done | assumption), (by (iterate 30 (try first | assumption | refine IsRat.mono ?_ (by assumption))); first | done | assumption), by assumption, by assumption⟩, ⟨_, _, _, _, rfl, (by (iterate 30 (try first | assumption | refine IsRat.mono ?_ (by assumption))); first | done | assumption), (by (iterate 30 (try first | assumption | refine IsRat.mono ?_ (by assumption))); first | done | assumption), by assumption, by assumption⟩⟩
end Go.Proofs.YtdemgbmndijkkaaGreatDoor