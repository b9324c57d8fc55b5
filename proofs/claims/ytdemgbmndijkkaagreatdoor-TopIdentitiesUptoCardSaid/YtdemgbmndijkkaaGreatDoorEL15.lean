/- Package elem: which arguments are ready, which values are exact. -/
import Derived.Test.YtdemgbmndijkkaaGreatDoorEL5
import Derived.Test.YtdemgbmndijkkaaGreatDoorEL12
set_option linter.unusedVariables false
set_option linter.unusedSimpArgs false
namespace Go.Proofs.YtdemgbmndijkkaaGreatDoor
open Go Go.Vc Go.Dig
/-- an argument that has a bracket -/
structure Rdy (fn : Nat) (q : Rat) (p : Int) : Prop where
  ft : fits q
  lo : 0 ≤ p
  hi : p ≤ 128
  df : fn = 2 → sg q = false ∧ nu q ≠ 0
  b1 : bl (nu q) ≤ 1024
  b2 : bl q.den ≤ 1024
  ex : fn = 1 → nu q ≤ 64 * q.den
  tr : fn = 3 ∨ fn = 4 → nu q ≤ 4294967296 * q.den
/-- the parts of a canonical number that fits -/
structure Parts (h : Heap) (a b : Sl) (q : Rat) : Prop where
  num : Nz h a (nu q) 64
  al : a.l = ln 4294967296 (nu q)
  is : IsRat h a b q
theorem parts {h : Heap} {a b : Sl} {q : Rat} (w : IsRat h a b q) (f : fits q) : Parts h a b q := ⟨⟨w.num, f.1⟩, w.num.len, w⟩
set_option maxRecDepth 20000 in
theorem tooLong_ct (h : Heap) (a b : Sl) (q : Rat) (neg : Bool) (w : IsRat h a b q) (f : fits q) : Fn0 T F.elem_tooLong [.agg #[.bool neg, a.val, b.val]] h fun v h' => v = .bool (dec (¬ (bl (nu q) ≤ 1024 ∧ bl q.den ≤ 1024))) := by
  have k := fun h w => whole_ct h neg a b q w (Nat.le_trans f.2 (by omega))
  have nn : Nz h a (nu q) 64 := ⟨w.num, f.1⟩
  obtain ⟨m, hm⟩ : ∃ m, m = nu q := ⟨_, rfl⟩
  obtain ⟨n, hn⟩ : ∃ n, n = q.den := ⟨_, rfl⟩
  rw [← hm] at nn ⊢
  rw [← hn] at k ⊢
  have e : dec (¬ (bl m ≤ 1024 ∧ bl n ≤ 1024)) = lt 1024 (mm true (bl m : Int) (bl n : Int)) := by
    rw [mm_max]
    by_cases g : 1024 < max (bl m) (bl n)
    · rw [dec_true (by omega), lt_true' (by omega)]
    · rw [dec_false (by omega), lt_false' (by omega)]
  rw [e]
  refine fn0_of_codeI ok D.elem_tooLong rfl ?_
  conv => whnf
  repeat ((first | refine opsI.step ?_ | refine codeI.step ?_); conv => whnf)
  repeat' first
   | (show CallN _ _ _ _ _ _; first
     | (refine CallN.fn rfl (OfZ _ _ _ _ (Nz.mono (by assumption) (by (iterate 30 (try first | assumption | exact Heap.le_refl _)); first | done | assumption)) (by omega)) (fun v h' hl hr => ?_); obtain ⟨s', rfl, hs'⟩ := hr; conv => whnf)
     | (refine CallN.quiet rfl (BitsZ _ _ _ _ (Nz.mono (by assumption) (by (iterate 30 (try first | assumption | exact Heap.le_refl _)); first | done | assumption)) (by omega)) ?_; conv => whnf)
     | (refine CallN.fn rfl (k _ (by (iterate 30 (try first | assumption | refine IsRat.mono ?_ (by assumption))); first | done | assumption)) (fun v h' hl hr => ?_); obtain ⟨s', rfl, hs'⟩ := hr; conv => whnf))
   | ((first | refine opsI.step ?_ | refine codeI.step ?_); conv => whnf)
   | (refine ⟨fun _ => HasLe.of_le (Heap.le_refl _), ?_⟩; conv => whnf)
   | (refine ⟨fun _ => HasLe.of_le (by assumption), ?_⟩; conv => whnf)
   | (intro (_ : Nat); conv => whnf)
   | (show LdN _ _ _ _ _; first
     | (refine LdN.own 0 rfl rfl ?_; conv => whnf))
   | (show Ld _ _ _ _; first
     | (refine Ld.own 0 rfl rfl ?_; conv => whnf))
   | (show DrawN _ _ _ _ _ _; first
     | (refine DrawN.run (by decide +kernel) ?_; conv => whnf))
  all_goals exact RetN.all rfl
set_option maxRecDepth 20000 in
theorem beyond_ct (h : Heap) (a b : Sl) (q : Rat) (neg : Bool) (c : Nat) (hc : c ≤ 4294967296) (w : IsRat h a b q) (f : fits q) : Fn0 T F.elem_beyond [.agg #[.bool neg, a.val, b.val], .int .u64 c] h fun v h' => v = .bool (dec (¬ nu q ≤ c * q.den)) := by
  have k := fun h w => whole_ct h neg a b q w (Nat.le_trans f.2 (by omega))
  have nn : Nz h a (nu q) 64 := ⟨w.num, f.1⟩
  obtain ⟨m, hm⟩ : ∃ m, m = nu q := ⟨_, rfl⟩
  obtain ⟨n, hn⟩ : ∃ n, n = q.den := ⟨_, rfl⟩
  rw [← hm] at nn ⊢
  rw [← hn] at k ⊢
  have e : dec (¬ m ≤ c * n) = lt 0 (cmpI m (n * c : Nat)) := by
    rw [Nat.mul_comm c n]
    obtain ⟨x, hx⟩ : ∃ x, x = n * c := ⟨_, rfl⟩
    rw [← hx]
    unfold cmpI
    by_cases g : m ≤ x
    · rw [dec_false (by omega), lt_false' (by split <;> (try split) <;> omega)]
    · rw [dec_true g, lt_true' (by split <;> (try split) <;> omega)]
  rw [e]
  refine fn0_of_codeI ok D.elem_beyond rfl ?_
  conv => whnf
  repeat ((first | refine opsI.step ?_ | refine codeI.step ?_); conv => whnf)
  repeat' first
   | (show CallN _ _ _ _ _ _; first
     | (refine CallN.fn rfl (OfZ _ _ _ _ (Nz.mono (by assumption) (by (iterate 30 (try first | assumption | exact Heap.le_refl _)); first | done | assumption)) (by omega)) (fun v h' hl hr => ?_); obtain ⟨s', rfl, hs'⟩ := hr; conv => whnf)
     | (refine CallN.fn rfl (MulZ _ _ _ _ _ _ _ (Nz.mono (by assumption) (by assumption)) (Nz.mono (by assumption) (by (iterate 30 (try first | assumption | exact Heap.le_refl _)); first | done | assumption)) (by omega) (by omega)) (fun v h' hl hr => ?_); obtain ⟨s', rfl, hs'⟩ := hr; conv => whnf)
     | (refine CallN.quiet rfl (CmpZ _ _ _ _ _ _ _ (Nz.mono (by assumption) (by (iterate 30 (try first | assumption | refine Heap.le_trans ?_ (by assumption))); first | done | assumption)) (Nz.mono (by assumption) (by (iterate 30 (try first | assumption | exact Heap.le_refl _)); first | done | assumption)) (by omega) (by omega)) ?_; conv => whnf)
     | (refine CallN.fn rfl (k _ (by (iterate 30 (try first | assumption | refine IsRat.mono ?_ (by assumption))); first | done | assumption)) (fun v h' hl hr => ?_); obtain ⟨s', rfl, hs'⟩ := hr; conv => whnf)
     | (refine CallN.fn rfl (SmallZ _ c (by omega)) (fun v h' hl hr => ?_); obtain ⟨s', rfl, hs'⟩ := hr; conv => whnf))
   | ((first | refine opsI.step ?_ | refine codeI.step ?_); conv => whnf)
   | (refine ⟨fun _ => HasLe.of_le (Heap.le_refl _), ?_⟩; conv => whnf)
   | (refine ⟨fun _ => HasLe.of_le (by assumption), ?_⟩; conv => whnf)
   | (intro (_ : Nat); conv => whnf)
   | (show LdN _ _ _ _ _; first
     | (refine LdN.own 0 rfl rfl ?_; conv => whnf))
   | (show Ld _ _ _ _; first
     | (refine Ld.own 0 rfl rfl ?_; conv => whnf))
   | (show DrawN _ _ _ _ _ _; first
     | (refine DrawN.run (by decide +kernel) ?_; conv => whnf))
  all_goals exact RetN.all rfl
set_option maxRecDepth 20000 in
theorem isOne_ct (h : Heap) (a b : Sl) (q : Rat) (w : IsRat h a b q) (f : fits q) : Fn0 T F.elem_isOne [.agg #[.bool (sg q), a.val, b.val]] h fun v h' => v = .bool (dec (q = 1)) := by
  have nn : Nz h a (nu q) 64 := ⟨w.num, f.1⟩
  have wb := w.den.len
  have hz := ln_eq_zero two_le_B (n := if q.den = 1 then 0 else q.den)
  have hd : b.l = 0 ↔ q.den = 1 := by
    rw [wb]
    show ln 4294967296 _ = 0 ↔ _
    rw [hz]
    by_cases g : q.den = 1
    · rw [if_pos g]; exact ⟨fun _ => g, fun _ => rfl⟩
    · rw [if_neg g]; exact ⟨fun e => absurd e q.den_nz, fun e => absurd e g⟩
  have h1 : q = 1 ↔ sg q = false ∧ q.den = 1 ∧ nu q = 1 := by
    constructor
    · intro e; rw [e]; exact ⟨by decide +kernel, by decide +kernel, by decide +kernel⟩
    · intro ⟨e1, e2, e3⟩
      rw [← mkQ_self q, e1, e2, e3]; decide +kernel
  obtain ⟨s, hs⟩ : ∃ s, s = sg q := ⟨_, rfl⟩
  obtain ⟨m, hm⟩ : ∃ m, m = nu q := ⟨_, rfl⟩
  rw [← hs] at h1 ⊢
  rw [← hm] at nn h1
  replace h1 := Hq.mk h1
  replace hd := Hq.mk hd
  clear hz wb
  refine fn0_of_codeI ok D.elem_isOne rfl ?_
  cases s
  all_goals
    conv => whnf
  all_goals (repeat' first
     | (show CallN _ _ _ _ _ _; first
       | (refine CallN.fn rfl (OfZ _ _ _ _ (Nz.mono (by assumption) (by (iterate 30 (try first | assumption | exact Heap.le_refl _)); first | done | assumption)) (by omega)) (fun v h' hl hr => ?_); obtain ⟨s', rfl, hs'⟩ := hr; conv => whnf)
       | (refine CallN.quiet rfl (OneZ _ _ _ _ (Nz.mono (by assumption) (by (iterate 30 (try first | assumption | exact Heap.le_refl _)); first | done | assumption)) (by omega)) ?_; conv => whnf))
     | ((first | refine opsI.step ?_ | refine codeI.step ?_); conv => whnf)
     | (intro (_ : Nat); conv => whnf)
     | (show cnd _ _ _; first
       | (refine cnd_eq (fun _ => ?_) (fun _ => ?_) <;> first | (exfalso; omega) | (conv => whnf)))
     | (show Ld _ _ _ _; first
       | (refine Ld.own 0 rfl rfl ?_; conv => whnf)))
  all_goals first
    | exact RetN.all (by rw [dec_false (fun e => absurd (h1.out.1 e).1 (by decide))])
    | exact RetN.all (by rw [dec_false (fun e => absurd (hd.out.2 (h1.out.1 e).2.1) (by omega))])
    | (have e := hd.out.1 (by omega)
       refine RetN.all ?_
       by_cases g : m = 1
       · rw [dec_true g, dec_true (h1.out.2 ⟨rfl, e, g⟩)]
       · rw [dec_false g, dec_false (fun x => g (h1.out.1 x).2.2)])
set_option maxRecDepth 20000 in
theorem defined_ct (h : Heap) (a b : Sl) (q : Rat) (fn : Nat) (h1 : 1 ≤ fn) (h4 : fn ≤ 4) (w : IsRat h a b q) : Fn0 T F.elem_defined [.int .i64 fn, .agg #[.bool (sg q), a.val, b.val]] h fun v h' => v = .bool (dec (fn = 2 → sg q = false ∧ nu q ≠ 0)) := by
  have wl := w.num.len
  have hz := ln_eq_zero two_le_B (n := nu q)
  have hd : a.l = 0 ↔ nu q = 0 := by rw [wl]; exact hz
  obtain ⟨s, hs⟩ : ∃ s, s = sg q := ⟨_, rfl⟩
  rw [← hs]
  replace hd := Hq.mk hd
  clear wl hz
  have hf : fn = 1 ∨ fn = 2 ∨ fn = 3 ∨ fn = 4 := by omega
  refine fn0_of_codeI ok D.elem_defined rfl ?_
  rcases hf with rfl | rfl | rfl | rfl
  all_goals cases s
  all_goals
    conv => whnf
  all_goals (repeat' first
     | (show SeqN _ _ _ _ _ _ _; first
       | (refine SeqN.go ?_; conv => whnf))
     | ((first | refine opsI.step ?_ | refine codeI.step ?_); conv => whnf)
     | (intro (_ : Nat); conv => whnf)
     | (show cnd _ _ _; first
       | (refine cnd_eq (fun _ => ?_) (fun _ => ?_) <;> first | (exfalso; omega) | (conv => whnf)))
     | (show Ld _ _ _ _; first
       | (refine Ld.own 0 rfl rfl ?_; conv => whnf)))
  all_goals first
    | exact RetN.all (by rw [dec_true (fun x => absurd x (by decide))])
    | exact RetN.all (by rw [dec_false (fun x => absurd (x rfl).1 (by decide))])
    | (refine RetN.all ?_
       by_cases g : nu q = 0
       · have := hd.out.2 g
         rw [dec_false (fun x => (x rfl).2 g), lt_false' (by omega)]
       · have : a.l ≠ 0 := fun x => g (hd.out.1 x)
         rw [dec_true (fun _ => ⟨rfl, g⟩), lt_true' (by omega)])
set_option maxRecDepth 20000 in
theorem known_ct (h : Heap) (tb : Tb h) (a b : Sl) (q : Rat) (fn : Nat) (h1 : 1 ≤ fn) (h4 : fn ≤ 4) (w : IsRat h a b q) (hs : Sz 1073741824 q) : Fn0 T F.elem_known [.int .i64 fn, .agg #[.bool (sg q), a.val, b.val]] h fun v h' => Res h' v (outR q) := by
  have hv := fun h (w : IsRat h a b q) => israt_val w hs
  have hr : spec1 (fun q => q) (sg q) (dg 4294967296 (nu q)) (dg 4294967296 (dn q)) = outR q := by
    unfold spec1
    by_cases f : fits q
    · rw [if_pos (okR_dg f), ratOf_dg]
    · rw [if_neg (fun o => f (by have := o.2.2; rwa [ratOf_dg] at this)), outR, if_neg f]
  have kc := fun h tb (w : IsRat h a b q) => NCanon_ct h tb (sg q) a b _ _ (hv h w)
  rw [hr] at kc
  obtain ⟨r, er, hr'⟩ : ∃ r e, outR q = (r, e) ∧ (e = 0 ∨ e = 1) := by
    unfold outR
    split
    · exact ⟨_, _, rfl, .inl rfl⟩
    · exact ⟨_, _, rfl, .inr rfl⟩
  rw [hr'.1] at kc ⊢
  have h01 := hr'.2
  clear hr hr'
  refine fn0_of_codeI ok D.elem_known rfl ?_
  conv => whnf
  repeat ((first | refine opsI.step ?_ | refine codeI.step ?_); conv => whnf)
  repeat' first
   | (show CallN _ _ _ _ _ _; first
     | (refine CallN.fn rfl (kc _ (by assumption) (by assumption)) (fun v h' hl hr => ?_); obtain ⟨a', b', rfl, hr2⟩ := hr; conv => whnf))
   | ((first | refine opsI.step ?_ | refine codeI.step ?_); conv => whnf)
   | (intro (_ : Nat); conv => whnf)
   | (show cnd _ _ _; first
     | (refine cnd_lt (fun _ => ?_) (fun _ => ?_) <;> first | (exfalso; omega) | (conv => whnf))
     | (refine cnd_eq (fun _ => ?_) (fun _ => ?_) <;> first | (exfalso; omega) | (conv => whnf)))
   | (show LdN _ _ _ _ _; first
     | (refine LdN.own 0 rfl rfl ?_; conv => whnf)
     | (refine LdN.own 1 rfl rfl ?_; conv => whnf))
   | (show Sto _ _ _ _; first
     | (refine Sto.lit 0 rfl rfl rfl ?_; conv => whnf)
     | (refine Sto.lit 1 rfl rfl rfl ?_; conv => whnf))
  all_goals first
    | exact RetN.all ⟨_, _, rfl, hr2⟩
    | (exfalso; omega)
end Go.Proofs.YtdemgbmndijkkaaGreatDoor