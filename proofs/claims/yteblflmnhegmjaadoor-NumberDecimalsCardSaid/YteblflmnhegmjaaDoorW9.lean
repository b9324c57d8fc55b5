/- Contracts of package word's functions on rational numbers, third part: the grid, powers, ints, reading and giving values. -/
import Derived.Test.YteblflmnhegmjaaDoorW8
set_option linter.unusedVariables false
set_option linter.unusedSimpArgs false
namespace Go.Proofs.YteblflmnhegmjaaDoor
open Go Go.Vc Go.Dig

set_option maxRecDepth 20000 in
set_option maxHeartbeats 1000000 in
theorem FGrid_ct (h : Heap) (tb : Tb h) (a b : Sl) (q : Rat) (p : Nat) (up : Bool) (hq : IsFr h a b q) (hs : Sz 1073741824 q) (hp : p ≤ 65536) :
    Fn0 T F.word_Frac_Grid [.agg #[.bool (sg q), a.val, b.val], .int .i64 p, .bool up] h fun v h' => ∃ s t : Sl, v = .agg #[.bool (sg (gridQ q p up)), s.val, t.val] ∧ IsFr h' s t (gridQ q p up) := by
  have i1 := hq.num
  have i2 := hq.den
  have l1 := hs.num
  have l2 := hs.den
  have e := grid_eq q p up
  have hd := q.den_nz
  have p1 := ln_mul two_le_B (nu q) (2 ^ p)
  have p2 := ln_two_pow p
  have hd2 : 2 ^ p ≠ 0 := two_pow_ne p
  obtain ⟨P, hP⟩ : ∃ P, P = 2 ^ p := ⟨_, rfl⟩
  obtain ⟨N, hN⟩ : ∃ N, N = nu q * 2 ^ p := ⟨_, rfl⟩
  rw [← hN] at p1 e
  rw [← hP] at p1 p2 hd2 e
  have p3 := ln_div N q.den
  have p4 := ln_le_of_le (Nat.le_of_lt (Nat.mod_lt N (Nat.pos_of_ne_zero hd)))
  have p5 := ln_add two_le_B (N / q.den) 1
  have p6 := ln_one 4294967296 two_le_B
  replace e := Hq.mk e
  refine fn0_of_codeI ok D.word_Frac_Grid rfl ?_
  conv => whnf
  repeat ((first | refine opsI.step ?_ | refine codeI.step ?_); conv => whnf)
  repeat' first
   | (show SeqN _ _ _ _ _ _ _; first
     | (refine SeqN.go ?_; conv => whnf))
   | (show CallN _ _ _ _ _ _; first
     | (refine CallN.fn rfl (Shl_ct _ _ (nu q) p (by (iterate 30 (try first | assumption | refine IsNat.mono ?_ (by assumption))); first | done | assumption) (by omega) (by omega)) (fun v h' hl hr => ?_); rw [← hN] at hr; obtain ⟨s', rfl, hs'⟩ := hr; conv => whnf)
     | (refine CallN.fn rfl (Shl_ct _ _ 1 p (by assumption) (by omega) (by omega)) (fun v h' hl hr => ?_); rw [Nat.one_mul, ← hP] at hr; obtain ⟨s', rfl, hs'⟩ := hr; conv => whnf)
     | (refine CallN.fn rfl (Div_ct _ _ _ _ _ (by assumption) (by (iterate 30 (try first | assumption | refine Ws.mono ?_ (by assumption))); first | done | assumption) (by omega) (by omega) (by first | assumption | omega)) (fun v h' hl hr => ?_); obtain ⟨q', r', rfl, hq', hr'⟩ := hr; conv => whnf)
     | (refine CallN.quiet rfl (Zero_ct _ _ _ (by assumption) (by omega)) ?_; conv => whnf)
     | (refine CallN.fn rfl (Small_ct _ 1 (by omega)) (fun v h' hl hr => ?_); obtain ⟨s', rfl, hs'⟩ := hr; conv => whnf)
     | (refine CallN.fn rfl (Add_ct _ _ _ _ _ (by (iterate 30 (try first | assumption | refine Ws.mono ?_ (by assumption))); first | done | assumption) (by assumption) (by omega) (by omega)) (fun v h' hl hr => ?_); obtain ⟨s', rfl, hs'⟩ := hr; conv => whnf)
     | (refine CallN.fn rfl (Reduce_ct _ (by (iterate 30 (try first | assumption | refine Tb.mono ?_ (by assumption))); first | done | assumption) _ _ _ _ _ (by (iterate 30 (try first | assumption | refine Ws.mono ?_ (by assumption))); first | done | assumption) (by assumption) (by omega) (by omega) (by first | assumption | omega)) (fun v h' hl hr => ?_); obtain ⟨a', b', rfl, hq'⟩ := hr; have hqn' := hq'.num; have hqd' := hq'.den; conv => whnf))
   | ((first | refine opsI.step ?_ | refine codeI.step ?_); conv => whnf)
   | (refine ⟨fun _ => HasLe.of_le (by assumption), ?_⟩; conv => whnf)
   | (refine ⟨fun hst => (by cases (show true = false from hst)), ?_⟩; conv => whnf)
   | (intro (_ : Nat); conv => whnf)
   | (show cnd _ _ _; first
     | (refine cnd_not ?_)
     | (refine cnd_beq (fun _ => ?_) (fun hne => ?_) <;> first | exact absurd rfl hne | (conv => whnf))
     | (refine cnd_dec (fun _ => ?_) (fun _ => ?_) <;> first | (exfalso; omega) | (conv => whnf)))
   | (show LdN _ _ _ _ _; first
     | (refine LdN.own 0 rfl rfl ?_; conv => whnf))
   | (show Ld _ _ _ _; first
     | (refine Ld.own 1 rfl rfl ?_; conv => whnf))
   | (show Sto _ _ _ _; first
     | (refine Sto.lit 0 rfl rfl rfl ?_; conv => whnf))
   | (show DrawN _ _ _ _ _ _; first
     | (refine DrawN.run (by decide +kernel) ?_; conv => whnf))
  all_goals first
    | exact RetN.all ⟨_, _, by rw [e.out, if_pos (.inl (by assumption)), Nat.add_zero] <;> rfl, by rw [e.out, if_pos (.inl (by assumption)), Nat.add_zero]; exact (by assumption)⟩
    | exact RetN.all ⟨_, _, by rw [e.out, if_pos (.inr (by assumption)), Nat.add_zero] <;> rfl, by rw [e.out, if_pos (.inr (by assumption)), Nat.add_zero]; exact (by assumption)⟩
    | exact RetN.all ⟨_, _, by rw [e.out, if_neg (by rintro (hh | hh) <;> contradiction)] <;> rfl, by rw [e.out, if_neg (by rintro (hh | hh) <;> contradiction)]; exact (by assumption)⟩

theorem WrapN.u64v {n : Int} {k : Int → Prop} (x : Nat) (h : n % 18446744073709551616 = x) (hk : k x) : WrapN .u64 n k := WrapN.u64m (by rw [h]; exact hk)
theorem WrapN.u64n {n : Int} {k : Int → Prop} (m : Nat) (h0 : 0 < m) (hm : m ≤ 9223372036854775808) (h : n = -(m : Int)) (hk : ∀ x : Nat, Hq (x = 18446744073709551616 - m) → k x) : WrapN .u64 n k :=
  WrapN.u64v (18446744073709551616 - m) (by omega) (hk _ ⟨rfl⟩)
set_option maxRecDepth 20000 in
theorem FInt_ct (h : Heap) (n : Int) (h1 : -9223372036854775808 ≤ n) (h2 : n ≤ 9223372036854775807) :
    Fn0 T F.word_Int [.int .i64 n] h fun v h' => ∃ s t : Sl, v = .agg #[.bool (sg (n : Rat)), s.val, t.val] ∧ IsFr h' s t (n : Rat) := by
  have e1 := nu_int n
  have e2 := sg_int n
  have e3 := den_int n
  obtain ⟨m, hm⟩ : ∃ m, m = n.natAbs := ⟨_, rfl⟩
  rw [← hm] at e1
  replace h1 : m ≤ 9223372036854775808 := by omega
  replace e1 := Hq.mk e1
  refine fn0_of_codeI ok D.word_Int rfl ?_
  by_cases hn : n < 0
  · conv => whnf
    repeat ((first | refine opsI.step ?_ | refine codeI.step ?_); conv => whnf)
    repeat' first
     | (show SeqN _ _ _ _ _ _ _; first
       | (refine SeqN.go ?_; conv => whnf))
     | (show WrapN _ _ _; first
       | (refine WrapN.u64v m (by have := hx.out; omega) ?_; conv => whnf)
       | (refine WrapN.u64n m (by omega) h1 (by omega) (fun x hx => ?_); conv => whnf))
     | ((first | refine opsI.step ?_ | refine codeI.step ?_); conv => whnf)
     | (intro (_ : Nat); conv => whnf)
     | (show cnd _ _ _; first
       | (refine cnd_lt (fun _ => ?_) (fun _ => ?_) <;> first | (exfalso; omega) | (conv => whnf)))
    refine CallN.fn rfl (Small_ct _ m (by omega)) (fun v h' hl hr => ?_)
    obtain ⟨s, rfl, hs⟩ := hr
    conv => whnf
    repeat ((first | refine opsI.step ?_ | refine codeI.step ?_); conv => whnf)
    refine CallN.fn rfl (Small_ct _ 1 (by omega)) (fun v h'' hl' hr => ?_)
    obtain ⟨t, rfl, ht⟩ := hr
    conv => whnf
    repeat ((first | refine opsI.step ?_ | refine codeI.step ?_); conv => whnf)
    repeat' first
     | ((first | refine opsI.step ?_ | refine codeI.step ?_); conv => whnf)
     | (show LdN _ _ _ _ _; first
       | (refine LdN.own 0 rfl rfl ?_; conv => whnf))
     | (show Sto _ _ _ _; first
       | (refine Sto.lit 0 rfl rfl rfl ?_; conv => whnf))
    exact RetN.all ⟨s, t, by rw [e2, decide_eq_true hn, lt_true' hn] <;> rfl, ⟨by rw [e1.out]; exact (by (iterate 30 (try first | assumption | refine IsNat.mono ?_ (by assumption))); first | done | assumption), by rw [e3]; exact (by assumption)⟩⟩
  · have hnm : n = m := by omega
    conv => whnf
    repeat ((first | refine opsI.step ?_ | refine codeI.step ?_); conv => whnf)
    repeat' first
     | (show SeqN _ _ _ _ _ _ _; first
       | (refine SeqN.go ?_; conv => whnf))
     | (show WrapN _ _ _; first
       | (refine WrapN.u64v m (by omega) ?_; conv => whnf))
     | ((first | refine opsI.step ?_ | refine codeI.step ?_); conv => whnf)
     | (intro (_ : Nat); conv => whnf)
     | (show cnd _ _ _; first
       | (refine cnd_lt (fun _ => ?_) (fun _ => ?_) <;> first | (exfalso; omega) | (conv => whnf)))
    refine CallN.fn rfl (Small_ct _ m (by omega)) (fun v h' hl hr => ?_)
    obtain ⟨s, rfl, hs⟩ := hr
    conv => whnf
    repeat ((first | refine opsI.step ?_ | refine codeI.step ?_); conv => whnf)
    refine CallN.fn rfl (Small_ct _ 1 (by omega)) (fun v h'' hl' hr => ?_)
    obtain ⟨t, rfl, ht⟩ := hr
    conv => whnf
    repeat ((first | refine opsI.step ?_ | refine codeI.step ?_); conv => whnf)
    repeat' first
     | ((first | refine opsI.step ?_ | refine codeI.step ?_); conv => whnf)
     | (show LdN _ _ _ _ _; first
       | (refine LdN.own 0 rfl rfl ?_; conv => whnf))
     | (show Sto _ _ _ _; first
       | (refine Sto.lit 0 rfl rfl rfl ?_; conv => whnf))
    exact RetN.all ⟨s, t, by rw [e2, decide_eq_false hn, lt_false' (by omega)] <;> rfl, ⟨by rw [e1.out]; exact (by (iterate 30 (try first | assumption | refine IsNat.mono ?_ (by assumption))); first | done | assumption), by rw [e3]; exact (by assumption)⟩⟩
theorem Clone_ct (h : Heap) (s : Sl) (l : List Nat) (hw : Ws .u32 h s l) (hm : l.length ≤ 4398046511104) : Fn0 T F.slices_Clone_of__of_uint32_uint32 [s.val] h fun v h' => ∃ s' : Sl, v = s'.val ∧ Ws .u32 h' s' l := by
  refine fn0_of_codeI ok D.slices_Clone_of__of_uint32_uint32 rfl ?_
  obtain ⟨a, n, c⟩ := s
  have hnil : a = none → l = [] := fun ha => by
    rcases List.eq_nil_or_concat l with e | ⟨_, _, e⟩
    · exact e
    · obtain ⟨b, off, _, _, _, hx, -⟩ := hw.mem (by rw [e]; simp)
      rw [ha] at hx; cases hx
  match a with
  | none =>
    conv => whnf
    repeat ((first | refine opsI.step ?_ | refine codeI.step ?_); conv => whnf)
    obtain rfl := hnil rfl
    exact RetN.all ⟨⟨none, 0, 0⟩, rfl, Ws.nil rfl⟩
  | some a =>
    conv => whnf
    repeat ((first | refine opsI.step ?_ | refine codeI.step ?_); conv => whnf)
    repeat' first
     | ((first | refine opsI.step ?_ | refine codeI.step ?_); conv => whnf)
     | (intro (_ : Nat); conv => whnf)
    refine App.all (s := .slice _ _ _) (t := ⟨some a, n, c⟩) rfl (GrowS.new (z := .int .u32 0) (kd := .u32) 0 rfl) hw (by simp) (by omega) (by decide) (fun v' L' g => ?_)
    conv => whnf
    repeat ((first | refine opsI.step ?_ | refine codeI.step ?_); conv => whnf)
    refine RetN.grow g fun h' s hle hv w => ⟨s, hv, ?_⟩
    simpa using w

/-- numerator and denominator of a canonical value: the denominator 1 is left out -/
structure IsRat (h : Heap) (a b : Sl) (q : Rat) : Prop where
  num : IsNat h a (nu q)
  den : IsNat h b (if q.den = 1 then 0 else q.den)
/-- what is handed out: the number, or the error of a large one -/
def outR (q : Rat) : Rat × Int := if fits q then (q, 0) else (0, 1)
/-- a value with its error -/
def Res (h : Heap) (v : Value) (x : Rat × Int) : Prop := ∃ a b : Sl, v = .tuple #[.agg #[.bool (sg x.1), a.val, b.val], .int .i64 x.2] ∧ IsRat h a b x.1
theorem IsRat.zero (h : Heap) : IsRat h ⟨none, 0, 0⟩ ⟨none, 0, 0⟩ 0 := ⟨by rw [nu_zero]; exact IsNat.nil rfl, by rw [if_pos (by rfl)]; exact IsNat.nil rfl⟩
theorem IsRat.mono {h h' : Heap} {a b : Sl} {q : Rat} (w : IsRat h a b q) (hl : h.le h') : IsRat h' a b q := ⟨w.num.mono hl, w.den.mono hl⟩

theorem Res.err (h : Heap) (e : Int) : Res h (.tuple #[.agg #[.bool false, .slice none 0 0, .slice none 0 0], .int .i64 e]) (0, e) :=
  ⟨⟨none, 0, 0⟩, ⟨none, 0, 0⟩, by rw [show sg (0, e).1 = false from sg_zero] <;> rfl, IsRat.zero _⟩
set_option maxRecDepth 20000 in
theorem Give_ct (h : Heap) (a b : Sl) (q : Rat) (hq : IsFr h a b q) (hs : Sz 1073741824 q) :
    Fn0 T F.word_Frac_Give [.agg #[.bool (sg q), a.val, b.val]] h fun v h' => Res h' v (outR q) := by
  have i1 := hq.num
  have i2 := hq.den
  have l1 := hs.num
  have l2 := hs.den
  have z1 : Sz 1099511627776 q := hs.mono (by omega)
  have f1 : fits q → outR q = (q, 0) := fun hh => if_pos hh
  have f2 : ¬ fits q → outR q = (0, 1) := fun hh => if_neg hh
  refine fn0_of_codeI ok D.word_Frac_Give rfl ?_
  conv => whnf
  repeat ((first | refine opsI.step ?_ | refine codeI.step ?_); conv => whnf)
  repeat' first
   | (show SeqN _ _ _ _ _ _ _; first
     | (refine SeqN.go ?_; conv => whnf))
   | (show CallN _ _ _ _ _ _; first
     | (refine CallN.quiet rfl (Fits_ct _ _ _ _ (by assumption) (by assumption)) ?_; conv => whnf)
     | (refine CallN.quiet rfl (One_ct _ _ _ (by (iterate 30 (try first | assumption | refine Ws.mono ?_ (by assumption))); first | done | assumption) (by omega)) ?_; conv => whnf)
     | (refine CallN.fn rfl (Clone_ct _ _ (dg 4294967296 (nu q)) (by (iterate 30 (try first | assumption | refine IsNat.mono ?_ (by assumption))); first | done | assumption) (by unfold ln at *; omega)) (fun v h' hl hr => ?_); obtain ⟨s', rfl, hs'⟩ := hr; conv => whnf)
     | (refine CallN.fn rfl (Clone_ct _ _ (dg 4294967296 q.den) (by (iterate 30 (try first | assumption | refine IsNat.mono ?_ (by assumption))); first | done | assumption) (by unfold ln at *; omega)) (fun v h' hl hr => ?_); obtain ⟨s', rfl, hs'⟩ := hr; conv => whnf))
   | ((first | refine opsI.step ?_ | refine codeI.step ?_); conv => whnf)
   | (refine ⟨fun _ => HasLe.of_le (by assumption), ?_⟩; conv => whnf)
   | (refine ⟨fun _ => HasLe.cons _, ?_⟩; conv => whnf)
   | (refine ⟨fun hst => (by cases (show true = false from hst)), ?_⟩; conv => whnf)
   | (intro (_ : Nat); conv => whnf)
   | (show cnd _ _ _; first
     | (refine cnd_not ?_)
     | (refine cnd_dec (fun _ => ?_) (fun _ => ?_) <;> first | (exfalso; omega) | (conv => whnf)))
   | (show LdN _ _ _ _ _; first
     | (refine LdN.own 0 rfl rfl ?_; conv => whnf)
     | (refine LdN.own 1 rfl rfl ?_; conv => whnf))
   | (show Ld _ _ _ _; first
     | (refine Ld.own 1 rfl rfl ?_; conv => whnf)
     | (refine Ld.own 2 rfl rfl ?_; conv => whnf))
   | (show Sto _ _ _ _; first
     | (refine Sto.lit 0 rfl rfl rfl ?_; conv => whnf)
     | (refine Sto.lit 1 rfl rfl rfl ?_; conv => whnf))
   | (show DrawN _ _ _ _ _ _; first
     | (refine DrawN.run (by decide +kernel) ?_; conv => whnf))
   | (show Both _ _; first
     | (refine Both.mk ?_ ?_ <;> (conv => whnf)))
  all_goals first
    | (rw [f2 (by assumption)]
       exact RetN.all (Res.err _ _))
    | (rw [f1 (by assumption)]
       first
         | exact RetN.all ⟨_, ⟨none, 0, 0⟩, rfl, (show IsRat _ _ _ q from ⟨(by assumption), by rw [if_pos (by assumption)]; exact IsNat.nil rfl⟩)⟩
         | exact RetN.all ⟨_, _, rfl, (show IsRat _ _ _ q from ⟨(by (iterate 30 (try first | assumption | refine IsNat.mono ?_ (by assumption))); first | done | assumption), by rw [if_neg (by assumption)]; exact (by assumption)⟩)⟩)

/-- the number that a value of any kind denotes -/
def ratOf (neg : Bool) (l m : List Nat) : Rat := mkQ neg (evl 4294967296 l) (if evl 4294967296 m = 0 then 1 else evl 4294967296 m)
/-- whether it is not large -/
def okR (neg : Bool) (l m : List Nat) : Prop := ln 4294967296 (evl 4294967296 l) ≤ 256 ∧ ln 4294967296 (evl 4294967296 m) ≤ 256 ∧ fits (ratOf neg l m)
instance (neg : Bool) (l m : List Nat) : Decidable (okR neg l m) := by unfold okR; exact inferInstance
theorem okR.sz {neg : Bool} {l m : List Nat} (h : okR neg l m) : Sz 64 (ratOf neg l m) := ⟨h.2.2.1, h.2.2.2⟩
/-- a value as it comes in -/
structure IsVal (h : Heap) (a b : Sl) (l m : List Nat) : Prop where
  num : Ws .u32 h a l
  den : Ws .u32 h b m
  ln : ∀ x ∈ l, x < 4294967296
  lm : ∀ x ∈ m, x < 4294967296
  sn : l.length ≤ 1073741824
  sm : m.length ≤ 1073741824
theorem IsVal.mono {h h' : Heap} {a b : Sl} {l m : List Nat} (w : IsVal h a b l m) (hl : h.le h') : IsVal h' a b l m := ⟨w.num.mono hl, w.den.mono hl, w.ln, w.lm, w.sn, w.sm⟩

end Go.Proofs.YteblflmnhegmjaaDoor
