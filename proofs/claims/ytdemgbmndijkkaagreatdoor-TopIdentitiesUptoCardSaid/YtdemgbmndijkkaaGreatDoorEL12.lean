/- Package elem: the remainder of an angle. -/
import Derived.Test.YtdemgbmndijkkaaGreatDoorEL11
set_option linter.unusedVariables false
set_option linter.unusedSimpArgs false
namespace Go.Proofs.YtdemgbmndijkkaaGreatDoor
open Go Go.Vc Go.Dig
theorem LdN_hasN {h : Heap} {L : Vc.Own} {b o m : Nat} {k : Value → Prop} (vs : List Value) (hl : vs.length = m) (hv : ∀ (i : Nat) v, vs[i]? = some v → Has h L ⟨b, o + i, none⟩ v) (hk : k (.agg vs.toArray)) : LdN h L ⟨b, o, none⟩ m k :=
  ⟨vs, hl, fun i hi => by
    rw [add_lit]
    exact hv i _ (by rw [List.getD_eq_getElem?_getD, List.getElem?_eq_getElem (by omega)]; rfl), hk⟩
theorem dg_first (n : Nat) (hn : n ≠ 0) : (dg 4294967296 n).getD 0 0 = n % 4294967296 := by rw [dg_pos two_le_B hn]; rfl
set_option maxRecDepth 20000 in
theorem modulo_ct (h : Heap) (a b : Sl) (q : Rat) (k : Int) (hk : q = (k : Rat)) (hq : IsRat h a b q) (hf : fits q) : Fn0 T F.elem_modulo [.agg #[.bool (sg q), a.val, b.val]] h fun v h' => v = .int .i64 (k % 4) := by
  have hs : sg q = decide (k < 0) := by rw [hk, sg_int]
  have hn : nu q = k.natAbs := by rw [hk, nu_int]
  have w := hq.num
  have wl := w.len
  have hz := ln_eq_zero two_le_B (n := nu q)
  have hd := dg_getD_lt two_le_B (nu q) 0
  have h1 : nu q ≠ 0 → (dg 4294967296 (nu q)).getD 0 0 = nu q % 4294967296 := dg_first _
  have hl := hf.1
  obtain ⟨n, hnn⟩ : ∃ n, n = nu q := ⟨_, rfl⟩
  rw [← hnn] at w wl hz hd h1 hn hl
  obtain ⟨d, hdd⟩ : ∃ d, d = (dg 4294967296 n).getD 0 0 := ⟨_, rfl⟩
  rw [← hdd] at hd h1
  have hln : (dg 4294967296 n).length = ln 4294967296 n := rfl
  clear hnn hk hf hq
  by_cases hn0 : n = 0
  · have e0 : k % 4 = 0 := by omega
    rw [e0]
    have al : a.l = 0 := by rw [wl]; exact hz.2 hn0
    clear hn hl h1 hz
    refine fn0_of_codeI ok D.elem_modulo rfl ?_
    conv => whnf
    repeat ((first | refine opsI.step ?_ | refine codeI.step ?_); conv => whnf)
    repeat' first
     | ((first | refine opsI.step ?_ | refine codeI.step ?_); conv => whnf)
     | (intro (_ : Nat); conv => whnf)
     | (show cnd _ _ _; first
       | (refine cnd_eq (fun _ => ?_) (fun _ => ?_) <;> first | (exfalso; omega) | (conv => whnf)))
     | (show Ld _ _ _ _; first
       | (refine Ld.own 0 rfl rfl ?_; conv => whnf))
    all_goals first
      | exact RetN.all rfl
      | (exfalso; omega)
  · have h1 := h1 hn0
    have hlp : 0 < ln 4294967296 n := Nat.pos_of_ne_zero (fun e => hn0 (hz.1 e))
    clear hz
    rw [hs]
    by_cases hk0 : k < 0
    · rw [decide_eq_true hk0]
      refine fn0_of_codeI ok D.elem_modulo rfl ?_
      conv => whnf
      repeat ((first | refine opsI.step ?_ | refine codeI.step ?_); conv => whnf)
      repeat' first
       | (show SeqN _ _ _ _ _ _ _; first
         | (refine SeqN.go ?_; conv => whnf))
       | (show Idx _ _ _ _ _; first
         | (refine Idx.ws w 0 (by omega) (by omega) (fun ad hv => ?_); rw [← hdd] at hv; conv => whnf))
       | (show Ld _ _ _ _; first
         | (refine Ld.of (by first | exact hv _ | (rename_i hv; exact hv _)) ?_; conv => whnf)
         | (refine Ld.own 0 rfl rfl ?_; conv => whnf))
       | (show RemN _ _ _; first
         | (refine RemN.nn (by omega) (by omega) ?_; conv => whnf))
       | ((first | refine opsI.step ?_ | refine codeI.step ?_); conv => whnf)
       | (intro (_ : Nat); conv => whnf)
       | (show WrapN _ _ _; first
         | (refine WrapN.i64 (by omega) (by omega) ?_; conv => whnf))
       | (show cnd _ _ _; first
         | (refine cnd_eq (fun _ => ?_) (fun _ => ?_) <;> first | (exfalso; omega) | (conv => whnf)))
      all_goals exact RetN.all (vi (by omega))
    · rw [decide_eq_false hk0]
      refine fn0_of_codeI ok D.elem_modulo rfl ?_
      conv => whnf
      repeat ((first | refine opsI.step ?_ | refine codeI.step ?_); conv => whnf)
      repeat' first
       | (show SeqN _ _ _ _ _ _ _; first
         | (refine SeqN.go ?_; conv => whnf))
       | (show Idx _ _ _ _ _; first
         | (refine Idx.ws w 0 (by omega) (by omega) (fun ad hv => ?_); rw [← hdd] at hv; conv => whnf))
       | (show Ld _ _ _ _; first
         | (refine Ld.of (by first | exact hv _ | (rename_i hv; exact hv _)) ?_; conv => whnf)
         | (refine Ld.own 0 rfl rfl ?_; conv => whnf))
       | (show RemN _ _ _; first
         | (refine RemN.nn (by omega) (by omega) ?_; conv => whnf))
       | ((first | refine opsI.step ?_ | refine codeI.step ?_); conv => whnf)
       | (intro (_ : Nat); conv => whnf)
       | (show WrapN _ _ _; first
         | (refine WrapN.i64 (by omega) (by omega) ?_; conv => whnf))
       | (show cnd _ _ _; first
         | (refine cnd_eq (fun _ => ?_) (fun _ => ?_) <;> first | (exfalso; omega) | (conv => whnf)))
      all_goals exact RetN.all (vi (by omega))
theorem opR_sub {x y : Rat} (h : fits (x - y)) : opR (· - ·) (some x) (some y) = (x - y, 0) := if_pos h
theorem opR_mul {x y : Rat} (h : fits (x * y)) : opR (· * ·) (some x) (some y) = (x * y, 0) := if_pos h
theorem opR_add {x y : Rat} (h : fits (x + y)) : opR (· + ·) (some x) (some y) = (x + y, 0) := if_pos h
theorem divR_of {x y : Rat} (h0 : nu y ≠ 0) (h : fits (x / y)) : divR (some x) (some y) = (x / y, 0) := by
  show (if nu y = 0 then (0, 10) else outR (x / y)) = _
  rw [if_neg h0]; exact if_pos h
/-- a number in a block of its own -/
structure Boxed (h : Heap) (bl : Nat) (q : Rat) : Prop where
  ex : ∃ (a b : Sl) (T0 : TypeId) (fz : Nat × Nat), h bl = some (.cells #[.bool (sg q), a.val, b.val] T0 fz) ∧ IsRat h a b q
theorem Boxed.mono {h h' : Heap} {bl : Nat} {q : Rat} (w : Boxed h bl q) (hl : h.le h') : Boxed h' bl q := by
  obtain ⟨a, b, T0, fz, e, r⟩ := w.ex
  exact ⟨a, b, T0, fz, hl _ _ e, r.mono hl⟩
set_option maxRecDepth 20000 in
theorem rest1_ct (h : Heap) (tb : Tb h) (b1 b2 : Nat) (a b : Sl) (k x c y : Rat) (w1 : Boxed h b1 k) (w2 : Boxed h b2 x) (hc : IsRat h a b c) (fk : fits k) (fx : fits x) (fc : fits c) (fm : fits (k * c)) (fy : fits y) (hy : x - k * c = y) :
    Fn0 T F.elem_rest_1 [.agg #[.bool (sg c), a.val, b.val], .pointer (some ⟨b1, 0, none⟩), .pointer (some ⟨b2, 0, none⟩)] h fun v h' => ∃ a b : Sl, v = .agg #[.bool (sg y), a.val, b.val] ∧ IsRat h' a b y := by
  obtain ⟨ka, kb, T1, z1, e1, r1⟩ := w1.ex
  obtain ⟨xa, xb, T2, z2, e2, r2⟩ := w2.ex
  have k1 := fun h n1 a1 b1 n2 a2 b2 tb u v => MulN h n1 a1 b1 n2 a2 b2 (some k) (some c) tb u v
  have k2 := fun h n1 a1 b1 n2 a2 b2 tb u v => SubN h n1 a1 b1 n2 a2 b2 (some x) (some (k * c)) tb u v
  rw [opR_mul fm] at k1
  rw [opR_sub (by rw [hy]; exact fy), hy] at k2
  have i1 := r1.isnum fk
  have i2 := r2.isnum fx
  have i3 := hc.isnum fc
  obtain ⟨t, ht⟩ : ∃ t, t = k * c := ⟨_, rfl⟩
  rw [← ht] at k1 k2 fm
  refine fn0_of_codeI ok D.elem_rest_1 rfl ?_
  conv => whnf
  repeat ((first | refine opsI.step ?_ | refine codeI.step ?_); conv => whnf)
  repeat' first
   | (show LdN _ _ _ _ _; first
     | (refine LdN_hasN [.bool (sg k), ka.val, kb.val] rfl (fun i v hv => Has.imm ((by first | exact Heap.le_refl _ | assumption | exact Heap.le_trans (by assumption) (by assumption) : Heap.le h _) _ _ e1) (by rw [Nat.zero_add]; exact (List.getElem?_toArray ..).trans hv)) ?_; conv => whnf)
     | (refine LdN_hasN [.bool (sg x), xa.val, xb.val] rfl (fun i v hv => Has.imm ((by first | exact Heap.le_refl _ | assumption | exact Heap.le_trans (by assumption) (by assumption) : Heap.le h _) _ _ e2) (by rw [Nat.zero_add]; exact (List.getElem?_toArray ..).trans hv)) ?_; conv => whnf)
     | (refine LdN.own 0 rfl rfl ?_; conv => whnf)
     | (refine LdN.own 1 rfl rfl ?_; conv => whnf)
     | (refine LdN.own 2 rfl rfl ?_; conv => whnf))
   | (show CallN _ _ _ _ _ _; first
     | (refine CallN.fn rfl (k1 _ _ _ _ _ _ _ (by assumption) (i1.mono (by (iterate 30 (try first | assumption | exact Heap.le_refl _)); first | done | assumption)) (i3.mono (by (iterate 30 (try first | assumption | exact Heap.le_refl _)); first | done | assumption))) (fun v h' hl hr => ?_); obtain ⟨a1, b1', rfl, r3, m3⟩ := hr; conv => whnf)
     | (refine CallN.fn rfl (k2 _ _ _ _ _ _ _ (by (iterate 30 (try first | assumption | refine Tb.mono ?_ (by assumption))); first | done | assumption) (i2.mono (by assumption)) (m3.mono (by (iterate 30 (try first | assumption | exact Heap.le_refl _)); first | done | assumption))) (fun v h' hl hr => ?_); obtain ⟨a4, b4, rfl, r4, m4⟩ := hr; conv => whnf))
   | ((first | refine opsI.step ?_ | refine codeI.step ?_); conv => whnf)
   | (intro (_ : Nat); conv => whnf)
   | (show Sto _ _ _ _; first
     | (refine Sto.lit 0 rfl rfl rfl ?_; conv => whnf)
     | (refine Sto.lit 2 rfl rfl rfl ?_; conv => whnf))
  all_goals exact RetN.all ⟨_, _, rfl, (by assumption)⟩
end Go.Proofs.YtdemgbmndijkkaaGreatDoor