/- Numbers that a value denotes, with none for a large one: contracts for laws that chain operations; whether two values of any kind are equal. -/
import Derived.Test.YteblflmnhegmjaaDoorL4
import Derived.Test.YteblflmnhegmjaaDoorVcMeet
set_option linter.unusedVariables false
set_option linter.unusedSimpArgs false
namespace Go.Dig
theorem mkQ_zero_iff (neg : Bool) {m n : Nat} (hn : n ≠ 0) : mkQ neg m n = 0 ↔ m = 0 := by
  rw [← nu_eq_zero, nu_mkQ neg hn]
  constructor
  · intro h
    have := Nat.div_mul_cancel (Nat.gcd_dvd_left m n)
    rw [h] at this; omega
  · rintro rfl; simp
theorem mkQ_eq_pos {a b : Bool} {m n k l : Nat} (hm : m ≠ 0) (hk : k ≠ 0) (hn : n ≠ 0) (hl : l ≠ 0) : mkQ a m n = mkQ b k l ↔ a = b ∧ m * l = k * n := by
  rw [mkQ_eq_iff hn hl]
  have p1 : 0 < m * l := Nat.mul_pos (by omega) (by omega)
  have p2 : 0 < k * n := Nat.mul_pos (by omega) (by omega)
  have e1 : (m : Int) * l = ((m * l : Nat) : Int) := by simp
  have e2 : (k : Int) * n = ((k * n : Nat) : Int) := by simp
  cases a <;> cases b <;> simp only [if_true, if_false, Bool.false_eq_true, Int.neg_mul, e1, e2, true_and, false_and, Bool.true_eq_false] <;> clear e1 e2 <;> generalize m * l = X at * <;> generalize k * n = Y at * <;> first | omega | (constructor <;> intro hh <;> first | (exfalso; omega) | exact hh.elim)
end Go.Dig
namespace Go.Proofs.YteblflmnhegmjaaDoor
open Go Go.Vc Go.Dig

theorem ln16_if {l : List Nat} (hl : ∀ x ∈ l, x < 4294967296) : ln 65536 (if evl 4294967296 l = 0 then 1 else evl 4294967296 l) ≤ 2 * l.length + 1 := by
  have h := ln16_le hl
  have p := ln_one 65536 two_le_b
  split <;> omega
set_option maxRecDepth 20000 in
set_option maxHeartbeats 1000000 in
theorem Equal_val (h : Heap) (n1 : Bool) (a1 b1 : Sl) (l1 m1 : List Nat) (n2 : Bool) (a2 b2 : Sl) (l2 m2 : List Nat) (v1 : IsVal h a1 b1 l1 m1) (v2 : IsVal h a2 b2 l2 m2) :
    Fn0 T F.ref01_Equal [.agg #[.bool n1, a1.val, b1.val], .agg #[.bool n2, a2.val, b2.val]] h fun v _ => v = .bool (dec (ratOf n1 l1 m1 = ratOf n2 l2 m2)) := by
  have i1 := v1.num
  have i2 := v1.den
  have i3 := v2.num
  have i4 := v2.den
  have g1 := v1.ln
  have g2 := v1.lm
  have g3 := v2.ln
  have g4 := v2.lm
  have b1' := v1.sn
  have b2' := v1.sm
  have b3' := v2.sn
  have b4' := v2.sm
  have k1 := ln16_le g1
  have k2 := ln16_le g2
  have k3 := ln16_le g3
  have k4 := ln16_le g4
  have k5 := ln16_if g2
  have k6 := ln16_if g4
  unfold ratOf
  obtain ⟨x1, hx1⟩ : ∃ x, x = evl 4294967296 l1 := ⟨_, rfl⟩
  obtain ⟨y1, hy1⟩ : ∃ x, x = evl 4294967296 m1 := ⟨_, rfl⟩
  obtain ⟨x2, hx2⟩ : ∃ x, x = evl 4294967296 l2 := ⟨_, rfl⟩
  obtain ⟨y2, hy2⟩ : ∃ x, x = evl 4294967296 m2 := ⟨_, rfl⟩
  rw [← hx1] at k1
  rw [← hy1] at k2 k5
  rw [← hx2] at k3
  rw [← hy2] at k4 k6
  rw [← hx1, ← hy1, ← hx2, ← hy2]
  obtain ⟨d1, hd1, hd1'⟩ : ∃ d, d = (if y1 = 0 then 1 else y1) ∧ d ≠ 0 := ⟨_, rfl, by split <;> omega⟩
  obtain ⟨d2, hd2, hd2'⟩ : ∃ d, d = (if y2 = 0 then 1 else y2) ∧ d ≠ 0 := ⟨_, rfl, by split <;> omega⟩
  rw [← hd1] at k5
  rw [← hd2] at k6
  rw [← hd1, ← hd2]
  have p1 := ln_mul two_le_b x1 d2
  have p2 := ln_mul two_le_b x2 d1
  have z1 := ln_eq_zero two_le_b (n := x1)
  have z2 := ln_eq_zero two_le_b (n := x2)
  have q1 : ln 65536 x1 = 0 → x1 = 0 := z1.1
  have q2 : ln 65536 x2 = 0 → x2 = 0 := z2.1
  have q3 : ln 65536 x1 ≠ 0 → x1 ≠ 0 := fun x y => x (z1.2 y)
  have q4 : ln 65536 x2 ≠ 0 → x2 ≠ 0 := fun x y => x (z2.2 y)
  clear z1 z2
  have e1 : x1 = 0 → x2 = 0 → mkQ n1 x1 d1 = mkQ n2 x2 d2 := fun a b => by rw [a, b, mkQ_zero, mkQ_zero]
  have e2 : x1 = 0 → x2 ≠ 0 → mkQ n1 x1 d1 ≠ mkQ n2 x2 d2 := fun a b c => by rw [a, mkQ_zero] at c; exact b ((mkQ_zero_iff n2 hd2').1 c.symm)
  have e3 : x1 ≠ 0 → x2 = 0 → mkQ n1 x1 d1 ≠ mkQ n2 x2 d2 := fun a b c => by rw [b, mkQ_zero] at c; exact a ((mkQ_zero_iff n1 hd1').1 c)
  have e4 := Hq.mk fun (a : x1 ≠ 0) (b : x2 ≠ 0) => mkQ_eq_pos (a := n1) (b := n2) a b hd1' hd2'
  obtain ⟨P, hP⟩ : ∃ P : Prop, P = (mkQ n1 x1 d1 = mkQ n2 x2 d2) := ⟨_, rfl⟩
  refine fn0_of_codeI ok D.ref01_Equal rfl ?_
  conv => whnf
  repeat ((first | refine opsI.step ?_ | refine codeI.step ?_); conv => whnf)
  repeat' first
   | (show CallN _ _ _ _ _ _; first
     | (refine CallN.fn rfl (words_ct _ _ l1 (by (iterate 30 (try first | assumption | refine Ws.mono ?_ (by assumption))); first | done | assumption) g1 (by omega)) (fun v h' hl hr => ?_); rw [← hx1] at hr; obtain ⟨s1, rfl, hs1⟩ := hr; have hl1 := hs1.len; conv => whnf)
     | (refine CallN.fn rfl (words_ct _ _ l2 (by (iterate 30 (try first | assumption | refine Ws.mono ?_ (by assumption))); first | done | assumption) g3 (by omega)) (fun v h' hl hr => ?_); rw [← hx2] at hr; obtain ⟨s2, rfl, hs2⟩ := hr; have hl2 := hs2.len; conv => whnf)
     | (refine CallN.fn rfl (words_ct _ _ m1 (by (iterate 30 (try first | assumption | refine Ws.mono ?_ (by assumption))); first | done | assumption) g2 (by omega)) (fun v h' hl hr => ?_); rw [← hy1] at hr; obtain ⟨s3, rfl, hs3⟩ := hr; conv => whnf)
     | (refine CallN.fn rfl (words_ct _ _ m2 (by (iterate 30 (try first | assumption | refine Ws.mono ?_ (by assumption))); first | done | assumption) g4 (by omega)) (fun v h' hl hr => ?_); rw [← hy2] at hr; obtain ⟨s4, rfl, hs4⟩ := hr; conv => whnf)
     | (refine CallN.fn rfl (den_ct _ _ ⟨none, 0, 0⟩ _ y1 (by (iterate 30 (try first | assumption | refine IsRef.mono ?_ (by assumption))); first | done | assumption) (by omega)) (fun v h' hl hr => ?_); rw [← hd1] at hr; obtain ⟨s5, rfl, hs5⟩ := hr; conv => whnf)
     | (refine CallN.fn rfl (den_ct _ _ ⟨none, 0, 0⟩ _ y2 (by assumption) (by omega)) (fun v h' hl hr => ?_); rw [← hd2] at hr; obtain ⟨s6, rfl, hs6⟩ := hr; conv => whnf)
     | (refine CallN.fn rfl (NatMul_ct _ _ _ x1 d2 (by (iterate 30 (try first | assumption | refine IsRef.mono ?_ (by assumption))); first | done | assumption) (by assumption) (by omega) (by omega)) (fun v h' hl hr => ?_); obtain ⟨s7, rfl, hs7⟩ := hr; conv => whnf)
     | (refine CallN.fn rfl (NatMul_ct _ _ _ x2 d1 (by (iterate 30 (try first | assumption | refine IsRef.mono ?_ (by assumption))); first | done | assumption) (by (iterate 30 (try first | assumption | refine IsRef.mono ?_ (by assumption))); first | done | assumption) (by omega) (by omega)) (fun v h' hl hr => ?_); obtain ⟨s8, rfl, hs8⟩ := hr; conv => whnf)
     | (refine CallN.quiet rfl (NatCmp_ct _ _ _ (x1 * d2) (x2 * d1) (by (iterate 30 (try first | assumption | refine IsRef.mono ?_ (by assumption))); first | done | assumption) (by assumption) (by omega) (by omega)) ?_; conv => whnf))
   | ((first | refine opsI.step ?_ | refine codeI.step ?_); conv => whnf)
   | (refine ⟨fun _ => HasLe.of_le (by assumption), ?_⟩; conv => whnf)
   | (intro (_ : Nat); conv => whnf)
   | (show cnd _ _ _; first
     | (refine cnd_eq (fun _ => ?_) (fun _ => ?_) <;> first | (exfalso; omega) | (conv => whnf))
     | (refine cnd_beq (fun _ => ?_) (fun hne => ?_) <;> first | exact absurd rfl hne | (conv => whnf)))
   | (show Ld _ _ _ _; first
     | (refine Ld.own 0 rfl rfl ?_; conv => whnf)
     | (refine Ld.own 1 rfl rfl ?_; conv => whnf))
   | (show DrawN _ _ _ _ _ _; first
     | (refine DrawN.run (by decide +kernel) ?_; conv => whnf))
  · have hx0 : x1 = 0 := by
      by_cases hq0 : ln 65536 x1 = 0
      · exact q1 hq0
      · omega
    by_cases h20 : ln 65536 x2 = 0
    · exact RetN.all (by rw [dec_true (e1 hx0 (q2 h20)), Vc.eq_true' (by omega)])
    · exact RetN.all (by rw [dec_false (e2 hx0 (q4 h20)), Vc.eq_false' (by omega)])
  · have hx0 : x2 = 0 := by
      by_cases hq0 : ln 65536 x2 = 0
      · exact q2 hq0
      · omega
    have h10 : ln 65536 x1 ≠ 0 := by omega
    exact RetN.all (by rw [dec_false (e3 (q3 h10) hx0), Vc.eq_false' (by omega)])
  all_goals
    have h10 : ln 65536 x1 ≠ 0 := by omega
    have h20 : ln 65536 x2 ≠ 0 := by omega
    have e5 := e4.out (q3 h10) (q4 h20)
  · by_cases hc : x1 * d2 = x2 * d1
    · exact RetN.all (by rw [dec_true (e5.2 ⟨by assumption, hc⟩), Vc.eq_true' (by rw [hc]; unfold cmpI; simp)])
    · exact RetN.all (by rw [dec_false (fun x => hc (e5.1 x).2), Vc.eq_false' (by unfold cmpI; split <;> (try split) <;> omega)])
  · exact RetN.all (by rw [dec_false (fun x => by have := (e5.1 x).1; contradiction)])

/-- the number that a value denotes; none: it is large -/
def valOf (n : Bool) (l m : List Nat) : Option Rat := if okR n l m then some (ratOf n l m) else none
structure IsNum (h : Heap) (n : Bool) (a b : Sl) (x : Option Rat) : Prop where
  ex : ∃ l m, IsVal h a b l m ∧ x = valOf n l m
theorem IsNum.mono {h h' : Heap} {n : Bool} {a b : Sl} {x : Option Rat} (w : IsNum h n a b x) (hl : h.le h') : IsNum h' n a b x := by
  obtain ⟨l, m, v, e⟩ := w.ex
  exact ⟨l, m, v.mono hl, e⟩
theorem IsVal.num' {h : Heap} {n : Bool} {a b : Sl} {l m : List Nat} (v : IsVal h a b l m) : IsNum h n a b (valOf n l m) := ⟨l, m, v, rfl⟩
/-- a result: its number is not large -/
structure Fok (p : Rat × Int) : Prop where
  ft : fits p.1
  err : p.2 ≠ 0 → p.1 = 0
theorem fits_sz {q : Rat} (h : fits q) : Sz 1073741824 q := ⟨Nat.le_trans h.1 (by decide), Nat.le_trans h.2 (by decide)⟩
theorem Fok.sz {p : Rat × Int} (k : Fok p) : Sz 1073741824 p.1 := fits_sz k.ft
theorem Fok.rok {p : Rat × Int} (k : Fok p) : Rok p := ⟨k.sz, k.err⟩
theorem fits_zero : fits 0 := by
  have h := sz_zero 0
  exact ⟨Nat.le_trans h.num (by decide), Nat.le_trans h.den (by decide)⟩
theorem Fok.err1 (e : Int) : Fok (0, e) := ⟨fits_zero, fun _ => rfl⟩
theorem Fok.out (q : Rat) : Fok (outR q) := by
  unfold outR
  split
  · rename_i h; exact ⟨h, fun x => absurd rfl x⟩
  · exact Fok.err1 1
theorem IsRat.isnum {h : Heap} {a b : Sl} {q : Rat} (w : IsRat h a b q) (hf : fits q) : IsNum h (sg q) a b (some q) :=
  ⟨_, _, israt_val w (fits_sz hf), by unfold valOf; rw [if_pos (okR_dg hf), ratOf_dg]⟩

/-- an operation on two numbers -/
def opR (op : Rat → Rat → Rat) : Option Rat → Option Rat → Rat × Int
  | some x, some y => outR (op x y)
  | _, _ => (0, 1)
theorem opR_val (op : Rat → Rat → Rat) (n1 : Bool) (l1 m1 : List Nat) (n2 : Bool) (l2 m2 : List Nat) : spec2 op n1 l1 m1 n2 l2 m2 = opR op (valOf n1 l1 m1) (valOf n2 l2 m2) := by
  unfold spec2 valOf
  by_cases h1 : okR n1 l1 m1 <;> by_cases h2 : okR n2 l2 m2 <;> simp [h1, h2, opR]
theorem Fok.opR (op : Rat → Rat → Rat) (x y : Option Rat) : Fok (opR op x y) := by
  cases x <;> cases y <;> first | exact Fok.out _ | exact Fok.err1 1
theorem outR_ok {q : Rat} (h : (outR q).2 = 0) : (outR q).1 = q := by
  unfold outR at *
  split
  · rfl
  · rename_i hf; rw [if_neg hf] at h; cases h
theorem opR_ok {op : Rat → Rat → Rat} {x y : Option Rat} (h : (Proofs.YteblflmnhegmjaaDoor.opR op x y).2 = 0) : ∃ a b, x = some a ∧ y = some b ∧ (Proofs.YteblflmnhegmjaaDoor.opR op x y).1 = op a b := by
  cases x with
  | none => exact absurd h (by simp [Proofs.YteblflmnhegmjaaDoor.opR])
  | some a =>
    cases y with
    | none => exact absurd h (by simp [Proofs.YteblflmnhegmjaaDoor.opR])
    | some b => exact ⟨a, b, rfl, rfl, outR_ok h⟩
/-- a quotient -/
def divR : Option Rat → Option Rat → Rat × Int
  | some x, some y => if nu y = 0 then (0, 10) else outR (x / y)
  | _, _ => (0, 1)
theorem divR_val (n1 : Bool) (l1 m1 : List Nat) (n2 : Bool) (l2 m2 : List Nat) : specDiv n1 l1 m1 n2 l2 m2 = divR (valOf n1 l1 m1) (valOf n2 l2 m2) := by
  unfold specDiv valOf
  by_cases h1 : okR n1 l1 m1 <;> by_cases h2 : okR n2 l2 m2 <;> simp [h1, h2, divR]
theorem Fok.divR (x y : Option Rat) : Fok (divR x y) := by
  cases x with
  | none => exact Fok.err1 1
  | some a =>
    cases y with
    | none => exact Fok.err1 1
    | some b =>
      show Fok (if nu b = 0 then (0, 10) else outR (a / b))
      by_cases hb : nu b = 0
      · rw [if_pos hb]; exact Fok.err1 10
      · rw [if_neg hb]; exact Fok.out _
theorem divR_ok {x y : Option Rat} (h : (Proofs.YteblflmnhegmjaaDoor.divR x y).2 = 0) : ∃ a b, x = some a ∧ y = some b ∧ b ≠ 0 ∧ (Proofs.YteblflmnhegmjaaDoor.divR x y).1 = a / b := by
  cases x with
  | none => exact absurd h (by simp [Proofs.YteblflmnhegmjaaDoor.divR])
  | some a =>
    cases y with
    | none => exact absurd h (by simp [Proofs.YteblflmnhegmjaaDoor.divR])
    | some b =>
      by_cases hb : nu b = 0
      · exact absurd h (by simp [Proofs.YteblflmnhegmjaaDoor.divR, hb])
      · refine ⟨a, b, rfl, rfl, fun e => hb (nu_eq_zero.2 e), ?_⟩
        have e : Proofs.YteblflmnhegmjaaDoor.divR (some a) (some b) = outR (a / b) := if_neg hb
        rw [e] at h ⊢
        exact outR_ok h

/-- a result that is handed on -/
def ResN (h : Heap) (v : Value) (p : Rat × Int) : Prop := ∃ a b : Sl, v = .tuple #[.agg #[.bool (sg p.1), a.val, b.val], .int .i64 p.2] ∧ IsRat h a b p.1 ∧ IsNum h (sg p.1) a b (some p.1)
theorem Res.isn {h : Heap} {v : Value} {p : Rat × Int} (r : Res h v p) (k : Fok p) : ResN h v p := by
  obtain ⟨a, b, e, w⟩ := r
  exact ⟨a, b, e, w, w.isnum k.ft⟩
theorem AddN (h : Heap) (n1 : Bool) (a1 b1 : Sl) (n2 : Bool) (a2 b2 : Sl) (x y : Option Rat) (tb : Tb h) (hx : IsNum h n1 a1 b1 x) (hy : IsNum h n2 a2 b2 y) :
    Fn0 T F.number_Add [.agg #[.bool n1, a1.val, b1.val], .agg #[.bool n2, a2.val, b2.val]] h fun v h' => ResN h' v (opR (· + ·) x y) := by
  obtain ⟨l1, m1, v1, rfl⟩ := hx.ex
  obtain ⟨l2, m2, v2, rfl⟩ := hy.ex
  rw [← opR_val]
  exact (NAdd_ct h n1 a1 b1 l1 m1 n2 a2 b2 l2 m2 tb v1 v2).mono fun v h' _ r => r.isn (by rw [opR_val]; exact Fok.opR _ _ _)
theorem SubN (h : Heap) (n1 : Bool) (a1 b1 : Sl) (n2 : Bool) (a2 b2 : Sl) (x y : Option Rat) (tb : Tb h) (hx : IsNum h n1 a1 b1 x) (hy : IsNum h n2 a2 b2 y) :
    Fn0 T F.number_Sub [.agg #[.bool n1, a1.val, b1.val], .agg #[.bool n2, a2.val, b2.val]] h fun v h' => ResN h' v (opR (· - ·) x y) := by
  obtain ⟨l1, m1, v1, rfl⟩ := hx.ex
  obtain ⟨l2, m2, v2, rfl⟩ := hy.ex
  rw [← opR_val]
  exact (NSub_ct h n1 a1 b1 l1 m1 n2 a2 b2 l2 m2 tb v1 v2).mono fun v h' _ r => r.isn (by rw [opR_val]; exact Fok.opR _ _ _)
theorem MulN (h : Heap) (n1 : Bool) (a1 b1 : Sl) (n2 : Bool) (a2 b2 : Sl) (x y : Option Rat) (tb : Tb h) (hx : IsNum h n1 a1 b1 x) (hy : IsNum h n2 a2 b2 y) :
    Fn0 T F.number_Mul [.agg #[.bool n1, a1.val, b1.val], .agg #[.bool n2, a2.val, b2.val]] h fun v h' => ResN h' v (opR (· * ·) x y) := by
  obtain ⟨l1, m1, v1, rfl⟩ := hx.ex
  obtain ⟨l2, m2, v2, rfl⟩ := hy.ex
  rw [← opR_val]
  exact (NMul_ct h tb n1 a1 b1 l1 m1 n2 a2 b2 l2 m2 v1 v2).mono fun v h' _ r => r.isn (by rw [opR_val]; exact Fok.opR _ _ _)
theorem DivN (h : Heap) (n1 : Bool) (a1 b1 : Sl) (n2 : Bool) (a2 b2 : Sl) (x y : Option Rat) (tb : Tb h) (hx : IsNum h n1 a1 b1 x) (hy : IsNum h n2 a2 b2 y) :
    Fn0 T F.number_Div [.agg #[.bool n1, a1.val, b1.val], .agg #[.bool n2, a2.val, b2.val]] h fun v h' => ResN h' v (divR x y) := by
  obtain ⟨l1, m1, v1, rfl⟩ := hx.ex
  obtain ⟨l2, m2, v2, rfl⟩ := hy.ex
  rw [← divR_val]
  exact (NDiv_ct h tb n1 a1 b1 l1 m1 n2 a2 b2 l2 m2 v1 v2).mono fun v h' _ r => r.isn (by rw [divR_val]; exact Fok.divR _ _)
/-- two values that denote one number are equal -/
theorem EqualN (h : Heap) (n1 : Bool) (a1 b1 : Sl) (n2 : Bool) (a2 b2 : Sl) (x y : Option Rat) (q : Rat) (ex : x = some q) (ey : y = some q) (hx : IsNum h n1 a1 b1 x) (hy : IsNum h n2 a2 b2 y) :
    Fn0 T F.ref01_Equal [.agg #[.bool n1, a1.val, b1.val], .agg #[.bool n2, a2.val, b2.val]] h fun v _ => v = .bool true := by
  obtain ⟨l1, m1, v1, e1⟩ := hx.ex
  obtain ⟨l2, m2, v2, e2⟩ := hy.ex
  rw [ex] at e1
  rw [ey] at e2
  unfold valOf at e1 e2
  split at e1
  · split at e2
    · exact (Equal_val h n1 a1 b1 l1 m1 n2 a2 b2 l2 m2 v1 v2).mono fun v h' _ r => by rw [r, dec_true ((Option.some.inj e1).symm.trans (Option.some.inj e2))]
    · cases e2
  · cases e1
end Go.Proofs.YteblflmnhegmjaaDoor
