/- Contracts of the reference's functions on rational numbers, second part: values, sizes, results. -/
import Derived.Test.YteblflmnhegmjaaDoorQ1
set_option linter.unusedVariables false
set_option linter.unusedSimpArgs false
namespace Go.Proofs.YteblflmnhegmjaaDoor
open Go Go.Vc Go.Dig

theorem ratOf_le (neg : Bool) (l m : List Nat) : nu (ratOf neg l m) ≤ evl 4294967296 l ∧ (ratOf neg l m).den ≤ (if evl 4294967296 m = 0 then 1 else evl 4294967296 m) := by
  unfold ratOf; exact mkQ_le neg (by split <;> omega)
theorem ln16_le {l : List Nat} (hl : ∀ x ∈ l, x < 4294967296) : ln 65536 (evl 4294967296 l) ≤ 2 * l.length := by
  have h1 := (ln_le_iff (b := 4294967296) two_le_B).2 (evl_lt two_le_B hl)
  have := ln_half (evl 4294967296 l)
  omega
theorem ratOf_sr {h : Heap} {a b : Sl} {neg : Bool} {l m : List Nat} (hv : IsVal h a b l m) : Sr 2147483649 (ratOf neg l m) := by
  have h1 := ln16_le hv.ln
  have h2 := ln16_le hv.lm
  have h3 := hv.sn
  have h4 := hv.sm
  have h5 := ratOf_le neg l m
  have h6 := ln_one 65536 two_le_b
  refine ⟨Nat.le_trans (ln_mono two_le_b h5.1) (by omega), Nat.le_trans (ln_mono two_le_b h5.2) ?_⟩
  split <;> omega

set_option maxRecDepth 20000 in
theorem QOf_ct (h : Heap) (neg : Bool) (a b : Sl) (l m : List Nat) (hv : IsVal h a b l m) :
    Fn0 T F.ref01_Of [.agg #[.bool neg, a.val, b.val]] h fun v h' => ∃ c d : Sl, v = .agg #[.bool (sg (ratOf neg l m)), c.val, d.val] ∧ IsQ h' c d (ratOf neg l m) := by
  have i1 := hv.num
  have i2 := hv.den
  have l1 := hv.ln
  have l2 := hv.lm
  have l3 := hv.sn
  have l4 := hv.sm
  have b1 := ln16_le l1
  have b2 := ln16_le l2
  have b3 := ln_one 65536 two_le_b
  obtain ⟨x, hx⟩ : ∃ x, x = evl 4294967296 l := ⟨_, rfl⟩
  obtain ⟨y, hy⟩ : ∃ y, y = evl 4294967296 m := ⟨_, rfl⟩
  obtain ⟨q, hq⟩ : ∃ q, q = ratOf neg l m := ⟨_, rfl⟩
  have hq1 : y = 0 → mkQ neg x 1 = q := fun h0 => by rw [hq, ratOf, ← hx, ← hy, if_pos h0]
  have hq2 : y ≠ 0 → mkQ neg x y = q := fun h0 => by rw [hq, ratOf, ← hx, ← hy, if_neg h0]
  rw [← hx] at b1
  rw [← hy] at b2
  have hz := ln_eq_zero two_le_b (n := y)
  have hz1 : ln 65536 y = 0 → y = 0 := hz.1
  have hz2 : ln 65536 y ≠ 0 → y ≠ 0 := fun h1 h0 => h1 (hz.2 h0)
  clear hz
  rw [← hq]
  replace hq := Hq.mk hq
  refine fn0_of_codeI ok D.ref01_Of rfl ?_
  conv => whnf
  repeat ((first | refine opsI.step ?_ | refine codeI.step ?_); conv => whnf)
  repeat' first
   | (show SeqN _ _ _ _ _ _ _; first
     | (refine SeqN.go ?_; conv => whnf))
   | (show CallN _ _ _ _ _ _; first
     | (refine CallN.fn rfl (words_ct _ _ l (by (iterate 30 (try first | assumption | refine Ws.mono ?_ (by assumption))); first | done | assumption) l1 (by omega)) (fun v h' hl hr => ?_); rw [← hx] at hr; obtain ⟨s', rfl, hs'⟩ := hr; have hxl := hs'.len; conv => whnf)
     | (refine CallN.fn rfl (words_ct _ _ m (by assumption) l2 (by omega)) (fun v h' hl hr => ?_); rw [← hy] at hr; obtain ⟨t', rfl, ht'⟩ := hr; have hyl := ht'.len; conv => whnf)
     | (refine CallN.fn rfl (NatOf_ct _ 1 (by omega)) (fun v h' hl hr => ?_); obtain ⟨s', rfl, hs'⟩ := hr; conv => whnf)
     | (refine CallN.fn rfl (Make_ct _ _ _ _ x 1 (by assumption) (by (iterate 30 (try first | assumption | refine IsRef.mono ?_ (by assumption))); first | done | assumption) (by omega) (by omega)) (fun v h' hl hr => ?_); rw [hq1 (hz1 (by omega))] at hr; obtain ⟨a', b', rfl, hq'⟩ := hr; conv => whnf)
     | (refine CallN.fn rfl (Make_ct _ _ _ _ x y (by assumption) (by (iterate 30 (try first | assumption | refine IsRef.mono ?_ (by assumption))); first | done | assumption) (by omega) (by omega)) (fun v h' hl hr => ?_); rw [hq2 (hz2 (by omega))] at hr; obtain ⟨a', b', rfl, hq'⟩ := hr; conv => whnf))
   | ((first | refine opsI.step ?_ | refine codeI.step ?_); conv => whnf)
   | (refine ⟨fun _ => HasLe.of_le (by assumption), ?_⟩; conv => whnf)
   | (refine ⟨fun hst => (by cases (show true = false from hst)), ?_⟩; conv => whnf)
   | (intro (_ : Nat); conv => whnf)
   | (show cnd _ _ _; first
     | (refine cnd_eq (fun _ => ?_) (fun _ => ?_) <;> first | (exfalso; omega) | (conv => whnf)))
   | (show LdN _ _ _ _ _; first
     | (refine LdN.own 0 rfl rfl ?_; conv => whnf))
   | (show Ld _ _ _ _; first
     | (refine Ld.own 1 rfl rfl ?_; conv => whnf))
   | (show Sto _ _ _ _; first
     | (refine Sto.lit 0 rfl rfl rfl ?_; conv => whnf))
   | (show DrawN _ _ _ _ _ _; first
     | (refine DrawN.run (by decide +kernel) ?_; conv => whnf))
  all_goals exact RetN.all ⟨_, _, rfl, (by assumption)⟩

theorem fits16 (q : Rat) : fits q ↔ ln 65536 (nu q) ≤ 128 ∧ ln 65536 q.den ≤ 128 := by
  have h1 := ln_half (nu q)
  have h2 := ln_half q.den
  unfold fits
  omega
theorem Over_q (h : Heap) (a b : Sl) (q : Rat) (hq : IsQ h a b q) (hs : Sr 4294967296 q) : Fn0 T F.ref01_Over [.agg #[.bool (sg q), a.val, b.val]] h fun v h' => h' = h ∧ v = .bool (!dec (fits q)) := by
  have h1 := hq.num.len
  have h2 := hq.den.len
  have h3 := hs.num
  have h4 := hs.den
  have hf := fits16 q
  refine fn0_of_codeI ok D.ref01_Over rfl ?_
  conv => whnf
  repeat ((first | refine opsI.step ?_ | refine codeI.step ?_); conv => whnf)
  replace hf := Hq.mk hf
  repeat' first
   | ((first | refine opsI.step ?_ | refine codeI.step ?_); conv => whnf)
   | (intro (_ : Nat); conv => whnf)
   | (show cnd _ _ _; first
     | (refine cnd_lt (fun _ => ?_) (fun _ => ?_) <;> first | (exfalso; omega) | (conv => whnf)))
   | (show Ld _ _ _ _; first
     | (refine Ld.own 0 rfl rfl ?_; conv => whnf))
  all_goals refine RetN.all ⟨rfl, ?_⟩
  · rw [dec_false (fun hh => by have := (hf.out.1 hh).1; omega)] <;> rfl
  · by_cases hh : ln 65536 q.den ≤ 128
    · rw [dec_true (hf.out.2 ⟨by omega, hh⟩), lt_false' (by omega)] <;> rfl
    · rw [dec_false (fun x => hh (hf.out.1 x).2), lt_true' (by omega)] <;> rfl

set_option maxRecDepth 20000 in
theorem Rat_ct (h : Heap) (a b : Sl) (q : Rat) (hq : IsQ h a b q) (hs : Sr 4294967296 q) : Fn0 T F.ref01_Rat [.agg #[.bool (sg q), a.val, b.val]] h fun v h' => ∃ c d : Sl, v = .agg #[.bool (sg q), c.val, d.val] ∧ IsRat h' c d q := by
  have i1 := hq.num
  have i2 := hq.den
  have h1 := hq.num.len
  have h2 := hq.den.len
  have h3 := hs.num
  have h4 := hs.den
  have d1 := q.den_nz
  have hsg : sg q = true → 0 < ln 65536 (nu q) := fun hh => by
    refine Nat.pos_of_ne_zero fun e => ?_
    have h0 := nu_eq_zero.1 ((ln_eq_zero two_le_b).1 e)
    rw [h0, sg_zero] at hh; cases hh
  refine fn0_of_codeI ok D.ref01_Rat rfl ?_
  conv => whnf
  repeat ((first | refine opsI.step ?_ | refine codeI.step ?_); conv => whnf)
  repeat' first
   | (show SeqN _ _ _ _ _ _ _; first
     | (refine SeqN.go ?_; conv => whnf))
   | (show CallN _ _ _ _ _ _; first
     | (refine CallN.quiet rfl (whole_q _ _ _ _ q.den (by (iterate 30 (try first | assumption | refine IsRef.mono ?_ (by assumption))); first | done | assumption) (by assumption) (by omega)) ?_; conv => whnf)
     | (refine CallN.fn rfl (list_ct _ _ (nu q) (by (iterate 30 (try first | assumption | refine IsRef.mono ?_ (by assumption))); first | done | assumption) (by omega)) (fun v h' hl hr => ?_); obtain ⟨s', rfl, hs'⟩ := hr; conv => whnf)
     | (refine CallN.fn rfl (list_ct _ _ q.den (by (iterate 30 (try first | assumption | refine IsRef.mono ?_ (by assumption))); first | done | assumption) (by omega)) (fun v h' hl hr => ?_); obtain ⟨s', rfl, hs'⟩ := hr; conv => whnf))
   | ((first | refine opsI.step ?_ | refine codeI.step ?_); conv => whnf)
   | (refine ⟨fun _ => HasLe.of_le (by assumption), ?_⟩; conv => whnf)
   | (refine ⟨fun _ => HasLe.cons _, ?_⟩; conv => whnf)
   | (refine ⟨fun hst => (by cases (show true = false from hst)), ?_⟩; conv => whnf)
   | (intro (_ : Nat); conv => whnf)
   | (show cnd _ _ _; first
     | (refine cnd_not ?_)
     | (refine cnd_dec (fun _ => ?_) (fun _ => ?_) <;> first | (exfalso; omega) | (conv => whnf))
     | (refine cnd_bool (fun _ => ?_) (fun _ => ?_) <;> (conv => whnf)))
   | (show LdN _ _ _ _ _; first
     | (refine LdN.own 0 rfl rfl ?_; conv => whnf)
     | (refine LdN.own 1 rfl rfl ?_; conv => whnf)
     | (refine LdN.own 2 rfl rfl ?_; conv => whnf))
   | (show Ld _ _ _ _; first
     | (refine Ld.own 1 rfl rfl ?_; conv => whnf)
     | (refine Ld.own 2 rfl rfl ?_; conv => whnf))
   | (show Sto _ _ _ _; first
     | (refine Sto.lit 0 rfl rfl rfl ?_; conv => whnf)
     | (refine Sto.lit 1 rfl rfl rfl ?_; conv => whnf))
   | (show DrawN _ _ _ _ _ _; first
     | (refine DrawN.run (by decide +kernel) ?_; conv => whnf))
   | (show Both _ _; first
     | (refine Both.mk ?_ ?_ <;> (conv => whnf)))
  all_goals first
    | exact RetN.all ⟨_, ⟨none, 0, 0⟩, by rw [show sg q = true by assumption, lt_true' (by have := hsg (by assumption); omega)] <;> rfl, ⟨(by assumption), by rw [if_pos (by assumption)]; exact IsNat.nil rfl⟩⟩
    | exact RetN.all ⟨_, _, by rw [show sg q = true by assumption, lt_true' (by have := hsg (by assumption); omega)] <;> rfl, ⟨(by (iterate 30 (try first | assumption | refine IsNat.mono ?_ (by assumption))); first | done | assumption), by rw [if_neg (by assumption)]; exact (by assumption)⟩⟩
    | exact RetN.all ⟨_, ⟨none, 0, 0⟩, by rw [show sg q = false by assumption] <;> rfl, ⟨(by assumption), by rw [if_pos (by assumption)]; exact IsNat.nil rfl⟩⟩
    | exact RetN.all ⟨_, _, by rw [show sg q = false by assumption] <;> rfl, ⟨(by (iterate 30 (try first | assumption | refine IsNat.mono ?_ (by assumption))); first | done | assumption), by rw [if_neg (by assumption)]; exact (by assumption)⟩⟩

theorem okR16 (neg : Bool) (l m : List Nat) : okR neg l m ↔ ln 65536 (evl 4294967296 l) ≤ 512 ∧ ln 65536 (evl 4294967296 m) ≤ 512 ∧ fits (ratOf neg l m) := by
  have h1 := ln_half (evl 4294967296 l)
  have h2 := ln_half (evl 4294967296 m)
  unfold okR
  constructor <;> intro ⟨a, b, c⟩ <;> exact ⟨by omega, by omega, c⟩
set_option maxRecDepth 20000 in
theorem Large_ct (h : Heap) (neg : Bool) (a b : Sl) (l m : List Nat) (hv : IsVal h a b l m) : Fn0 T F.ref01_Large [.agg #[.bool neg, a.val, b.val]] h fun v _ => v = .bool (!dec (okR neg l m)) := by
  have i1 := hv.num
  have i2 := hv.den
  have l1 := hv.ln
  have l2 := hv.lm
  have l3 := hv.sn
  have l4 := hv.sm
  have b1 := ln16_le l1
  have b2 := ln16_le l2
  have hsr := (ratOf_sr (neg := neg) hv).mono (show 2147483649 ≤ 4294967296 by decide)
  obtain ⟨x, hx⟩ : ∃ x, x = evl 4294967296 l := ⟨_, rfl⟩
  obtain ⟨y, hy⟩ : ∃ y, y = evl 4294967296 m := ⟨_, rfl⟩
  have hok := okR16 neg l m
  rw [← hx, ← hy] at hok
  rw [← hx] at b1
  rw [← hy] at b2
  replace hok := Hq.mk hok
  refine fn0_of_codeI ok D.ref01_Large rfl ?_
  conv => whnf
  repeat ((first | refine opsI.step ?_ | refine codeI.step ?_); conv => whnf)
  repeat' first
   | (show CallN _ _ _ _ _ _; first
     | (refine CallN.fn rfl (words_ct _ _ l (by (iterate 30 (try first | assumption | refine Ws.mono ?_ (by assumption))); first | done | assumption) l1 (by omega)) (fun v h' hl hr => ?_); rw [← hx] at hr; obtain ⟨s', rfl, hs'⟩ := hr; have hxl := hs'.len; conv => whnf)
     | (refine CallN.fn rfl (words_ct _ _ m (by (iterate 30 (try first | assumption | refine Ws.mono ?_ (by assumption))); first | done | assumption) l2 (by omega)) (fun v h' hl hr => ?_); rw [← hy] at hr; obtain ⟨t', rfl, ht'⟩ := hr; have hyl := ht'.len; conv => whnf)
     | (refine CallN.fn rfl (QOf_ct _ _ _ _ l m (by (iterate 30 (try first | assumption | refine IsVal.mono ?_ (by assumption))); first | done | assumption)) (fun v h' hl hr => ?_); obtain ⟨a', b', rfl, hq'⟩ := hr; have hqn' := hq'.num; have hqd' := hq'.den; conv => whnf)
     | (refine CallN.quiet rfl (Over_q _ _ _ _ (by assumption) (by first | assumption | omega)) ?_; conv => whnf))
   | ((first | refine opsI.step ?_ | refine codeI.step ?_); conv => whnf)
   | (intro (_ : Nat); conv => whnf)
   | (show cnd _ _ _; first
     | (refine cnd_lt (fun _ => ?_) (fun _ => ?_) <;> first | (exfalso; omega) | (conv => whnf)))
   | (show LdN _ _ _ _ _; first
     | (refine LdN.own 0 rfl rfl ?_; conv => whnf))
   | (show Ld _ _ _ _; first
     | (refine Ld.own 0 rfl rfl ?_; conv => whnf))
  · exact RetN.all (by rw [dec_false (fun hh => by have := (hok.out.1 hh).1; omega)] <;> rfl)
  · exact RetN.all (by rw [dec_false (fun hh => by have := (hok.out.1 hh).2.1; omega)] <;> rfl)
  · exact RetN.all (by rw [dec_congr (p := okR neg l m) (q := fits (ratOf neg l m)) ⟨fun hh => (hok.out.1 hh).2.2, fun hh => hok.out.2 ⟨by omega, by omega, hh⟩⟩] <;> rfl)

set_option maxRecDepth 20000 in
theorem Done_ct (h : Heap) (a b : Sl) (q : Rat) (hq : IsQ h a b q) (hs : Sr 4294967296 q) : Fn0 T F.ref01_Done [.agg #[.bool (sg q), a.val, b.val]] h fun v h' => Res h' v (outR q) := by
  have f1 : fits q → outR q = (q, 0) := fun hh => if_pos hh
  have f2 : ¬ fits q → outR q = (0, 1) := fun hh => if_neg hh
  refine fn0_of_codeI ok D.ref01_Done rfl ?_
  conv => whnf
  repeat ((first | refine opsI.step ?_ | refine codeI.step ?_); conv => whnf)
  repeat' first
   | (show CallN _ _ _ _ _ _; first
     | (refine CallN.quiet rfl (Over_q _ _ _ _ (by assumption) (by first | assumption | omega)) ?_; conv => whnf)
     | (refine CallN.fn rfl (Rat_ct _ _ _ _ (by assumption) (by first | assumption | omega)) (fun v h' hl hr => ?_); obtain ⟨a', b', rfl, hq'⟩ := hr; have hqn' := hq'.num; have hqd' := hq'.den; conv => whnf))
   | ((first | refine opsI.step ?_ | refine codeI.step ?_); conv => whnf)
   | (intro (_ : Nat); conv => whnf)
   | (show cnd _ _ _; first
     | (refine cnd_not ?_)
     | (refine cnd_dec (fun _ => ?_) (fun _ => ?_) <;> first | (exfalso; omega) | (conv => whnf)))
   | (show LdN _ _ _ _ _; first
     | (refine LdN.own 0 rfl rfl ?_; conv => whnf)
     | (refine LdN.own 1 rfl rfl ?_; conv => whnf))
   | (show Sto _ _ _ _; first
     | (refine Sto.lit 0 rfl rfl rfl ?_; conv => whnf))
  all_goals first
    | (rw [f1 (by assumption)]; exact RetN.all ⟨_, _, rfl, (show IsRat _ _ _ q from (by assumption))⟩)
    | (rw [f2 (by assumption)]; exact RetN.all (Res.err _ _))
end Go.Proofs.YteblflmnhegmjaaDoor
