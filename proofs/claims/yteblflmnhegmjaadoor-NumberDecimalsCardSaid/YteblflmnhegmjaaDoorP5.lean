/- What the statements on texts and on decimals compute: true. -/
import Derived.Test.YteblflmnhegmjaaDoorP4
import Derived.Test.YteblflmnhegmjaaDoorL4
set_option linter.unusedVariables false
set_option linter.unusedSimpArgs false
namespace Go.Proofs.YteblflmnhegmjaaDoor
open Go Go.Vc Go.Dig
theorem val_fit {n : Bool} {l m : List Nat} {q : Rat} (h : valOf n l m = some q) : fits q := by
  unfold valOf at h
  split at h
  · rename_i k; cases h; exact k.2.2
  · cases h
/-- a text that Format makes, and what Parse makes of it -/
structure TextOf (q : Rat) (F : List Nat) : Prop where
  fmt : fmtR (some q) = (F, 0)
  lt : ∀ y ∈ F, y < 256
  parse : parseL F = (q, 0)
  ft : fits q
theorem TextOf.of {q : Rat} (hf : fits q) : ∃ F, TextOf q F := ⟨fmtL q, rfl, fmtL_lt q, parse_fmt hf, hf⟩
set_option maxRecDepth 20000 in
set_option maxHeartbeats 2000000 in
theorem Texts_law (h : Heap) (tb : Tb h) (n1 : Bool) (a1 b1 : Sl) (l1 m1 : List Nat) (hv1 : IsVal h a1 b1 l1 m1) (s : ByteArray) (hs : s.size ≤ maxLen) :
    Fn0 T F.law01_NumberTexts [.agg #[.bool n1, a1.val, b1.val], .string s] h fun v _ => v = .bool true := by
  obtain ⟨L, rfl, hb⟩ : ∃ L, s = txt L ∧ ∀ y ∈ L, y < 256 := ⟨rl s, (txt_rl s).symm, rl_lt s⟩
  have w1 := hv1.num' (n := n1)
  have vf := fun q => val_fit (n := n1) (l := l1) (m := m1) (q := q)
  obtain ⟨x, hx⟩ : ∃ x, x = valOf n1 l1 m1 := ⟨_, rfl⟩
  rw [← hx] at w1 vf
  clear hx hs
  have k2 := Fok.parseL L
  obtain ⟨p2, hp2⟩ : ∃ p, p = parseL L := ⟨_, rfl⟩
  rw [← hp2] at k2
  obtain ⟨F2, t2⟩ := TextOf.of k2.ft
  cases x with
  | none =>
    refine fn0_of_codeI ok D.law01_NumberTexts rfl ?_
    repeat' first
     | (show SeqN _ _ _ _ _ _ _; first
       | (refine SeqN.go ?_; conv => whnf))
     | (show CallN _ _ _ _ _ _; first
       | (refine CallN.fn rfl (FormatN _ _ _ _ none (by (iterate 30 (try first | assumption | refine Tb.mono ?_ (by assumption))); first | done | assumption) (by (iterate 30 (try first | assumption | refine IsNum.mono ?_ (by assumption))); first | done | assumption)) (fun v h' hl hr => ?_); obtain rfl := (show v = .tuple #[.string (txt []), .int .i64 1] from hr); conv => whnf)
       | (refine CallN.fn rfl (ParseN _ L (by (iterate 30 (try first | assumption | refine Tb.mono ?_ (by assumption))); first | done | assumption) hb) (fun v h' hl hr => ?_); rw [← hp2] at hr; obtain ⟨e2, f2, rfl, hq2, hn2⟩ := hr; conv => whnf)
       | (refine CallN.fn rfl (FormatN _ _ _ _ (some p2.1) (by (iterate 30 (try first | assumption | refine Tb.mono ?_ (by assumption))); first | done | assumption) (by assumption)) (fun v h' hl hr => ?_); rw [t2.fmt] at hr; obtain rfl := hr; conv => whnf)
       | (refine CallN.fn rfl (ParseN _ F2 (by (iterate 30 (try first | assumption | refine Tb.mono ?_ (by assumption))); first | done | assumption) t2.lt) (fun v h' hl hr => ?_); rw [t2.parse] at hr; obtain ⟨e3, f3, rfl, hq3, hn3⟩ := hr; conv => whnf)
       | (refine CallN.fn rfl (EqualN _ _ _ _ _ _ _ (some p2.1) (some p2.1) p2.1 rfl rfl (by (iterate 30 (try first | assumption | refine IsNum.mono ?_ (by assumption))); first | done | assumption) (by assumption)) (fun v h' hl hr => ?_); obtain rfl := hr; conv => whnf)
       | (refine CallN.fn rfl (awake_ct _ (by (iterate 30 (try first | assumption | refine Tb.mono ?_ (by assumption))); first | done | assumption)) (fun v h' hl hr => ?_); obtain rfl := hr; conv => whnf))
     | ((first | refine opsI.step ?_ | refine codeI.step ?_); conv => whnf)
     | (intro (_ : Nat); conv => whnf)
     | (show cnd _ _ _; first
       | (refine cnd_eq (fun _ => ?_) (fun _ => ?_) <;> first | (exfalso; omega) | (conv => whnf))
       | (refine cnd_not ?_))
     | (show LdN _ _ _ _ _; first
       | (refine LdN.own 0 rfl rfl ?_; conv => whnf)
       | (refine LdN.own 1 rfl rfl ?_; conv => whnf))
     | (show Sto _ _ _ _; first
       | (refine Sto.lit 0 rfl rfl rfl ?_; conv => whnf))
    all_goals exact RetN.all rfl
  | some q =>
    obtain ⟨F1, t1⟩ := TextOf.of (vf q rfl)
    have z1 := fits_sz t1.ft
    refine fn0_of_codeI ok D.law01_NumberTexts rfl ?_
    repeat' first
     | (show SeqN _ _ _ _ _ _ _; first
       | (refine SeqN.go ?_; conv => whnf))
     | (show CallN _ _ _ _ _ _; first
       | (refine CallN.fn rfl (FormatN _ _ _ _ (some q) (by (iterate 30 (try first | assumption | refine Tb.mono ?_ (by assumption))); first | done | assumption) (by (iterate 30 (try first | assumption | refine IsNum.mono ?_ (by assumption))); first | done | assumption)) (fun v h' hl hr => ?_); rw [t1.fmt] at hr; obtain rfl := hr; conv => whnf)
       | (refine CallN.fn rfl (ParseN _ F1 (by (iterate 30 (try first | assumption | refine Tb.mono ?_ (by assumption))); first | done | assumption) t1.lt) (fun v h' hl hr => ?_); rw [t1.parse] at hr; obtain ⟨e1, f1, rfl, hq1, hn1⟩ := hr; conv => whnf)
       | (refine CallN.fn rfl (Canonical_ct _ _ _ q (by assumption) z1) (fun v h' hl hr => ?_); obtain rfl := hr; conv => whnf)
       | (refine CallN.fn rfl (EqualN _ _ _ _ _ _ _ (some q) (some q) q rfl rfl (by (iterate 30 (try first | assumption | refine IsNum.mono ?_ (by assumption))); first | done | assumption) (by (iterate 30 (try first | assumption | refine IsNum.mono ?_ (by assumption))); first | done | assumption)) (fun v h' hl hr => ?_); obtain rfl := hr; conv => whnf)
       | (refine CallN.fn rfl (ParseN _ L (by (iterate 30 (try first | assumption | refine Tb.mono ?_ (by assumption))); first | done | assumption) hb) (fun v h' hl hr => ?_); rw [← hp2] at hr; obtain ⟨e2, f2, rfl, hq2, hn2⟩ := hr; conv => whnf)
       | (refine CallN.fn rfl (FormatN _ _ _ _ (some p2.1) (by (iterate 30 (try first | assumption | refine Tb.mono ?_ (by assumption))); first | done | assumption) (by assumption)) (fun v h' hl hr => ?_); rw [t2.fmt] at hr; obtain rfl := hr; conv => whnf)
       | (refine CallN.fn rfl (ParseN _ F2 (by (iterate 30 (try first | assumption | refine Tb.mono ?_ (by assumption))); first | done | assumption) t2.lt) (fun v h' hl hr => ?_); rw [t2.parse] at hr; obtain ⟨e3, f3, rfl, hq3, hn3⟩ := hr; conv => whnf)
       | (refine CallN.fn rfl (EqualN _ _ _ _ _ _ _ (some p2.1) (some p2.1) p2.1 rfl rfl (by (iterate 30 (try first | assumption | refine IsNum.mono ?_ (by assumption))); first | done | assumption) (by assumption)) (fun v h' hl hr => ?_); obtain rfl := hr; conv => whnf)
       | (refine CallN.fn rfl (awake_ct _ (by (iterate 30 (try first | assumption | refine Tb.mono ?_ (by assumption))); first | done | assumption)) (fun v h' hl hr => ?_); obtain rfl := hr; conv => whnf))
     | ((first | refine opsI.step ?_ | refine codeI.step ?_); conv => whnf)
     | (intro (_ : Nat); conv => whnf)
     | (show cnd _ _ _; first
       | (refine cnd_eq (fun _ => ?_) (fun _ => ?_) <;> first | (exfalso; omega) | (conv => whnf))
       | (refine cnd_not ?_))
     | (show LdN _ _ _ _ _; first
       | (refine LdN.own 0 rfl rfl ?_; conv => whnf)
       | (refine LdN.own 1 rfl rfl ?_; conv => whnf))
     | (show Sto _ _ _ _; first
       | (refine Sto.lit 0 rfl rfl rfl ?_; conv => whnf))
    all_goals exact RetN.all rfl
end Go.Proofs.YteblflmnhegmjaaDoor
