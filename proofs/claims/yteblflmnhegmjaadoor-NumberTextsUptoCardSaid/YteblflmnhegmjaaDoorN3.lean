/- Contracts of package number's functions, third part: signs, opposites, absolute values; the reference's absolute value. -/
import Derived.Test.YteblflmnhegmjaaDoorN2
import Derived.Test.YteblflmnhegmjaaDoorQ4
set_option linter.unusedVariables false
set_option linter.unusedSimpArgs false
namespace Go.Dig
def absQ (q : Rat) : Rat := mkQ false (nu q) q.den
theorem sg_abs (q : Rat) : sg (absQ q) = false := by unfold absQ; rw [sg_mkQ false q.den_nz]; rfl
theorem nu_abs (q : Rat) : nu (absQ q) = nu q := by unfold absQ; rw [nu_mkQ false q.den_nz, cop, Nat.div_one]
theorem den_abs (q : Rat) : (absQ q).den = q.den := by unfold absQ; rw [den_mkQ false q.den_nz, cop, Nat.div_one]
end Go.Dig
namespace Go.Proofs.YteblflmnhegmjaaDoor
open Go Go.Vc Go.Dig

/-- what Sign hands out -/
def specSign (n1 : Bool) (l1 m1 : List Nat) : Int × Int := if okR n1 l1 m1 then (signQ (ratOf n1 l1 m1), 0) else (0, 1)
set_option maxRecDepth 20000 in
set_option maxHeartbeats 1000000 in
theorem NSign_ct (h : Heap) (tb : Tb h) (n1 : Bool) (a1 b1 : Sl) (l1 m1 : List Nat) (hv1 : IsVal h a1 b1 l1 m1) :
    Fn0 T F.number_Sign [.agg #[.bool n1, a1.val, b1.val]] h fun v _ => v = .tuple #[.int .i64 (specSign n1 l1 m1).1, .int .i64 (specSign n1 l1 m1).2] := by
  have f1 : okR n1 l1 m1 → specSign n1 l1 m1 = (signQ (ratOf n1 l1 m1), 0) := fun x => if_pos x
  have f2 : ¬ okR n1 l1 m1 → specSign n1 l1 m1 = (0, 1) := fun x => if_neg x
  refine fn0_of_codeI ok D.number_Sign rfl ?_
  conv => whnf
  repeat ((first | refine opsI.step ?_ | refine codeI.step ?_); conv => whnf)
  repeat' first
   | (show CallN _ _ _ _ _ _; first
     | (refine CallN.fn rfl (Read_ct _ (by assumption) _ _ _ l1 m1 (by assumption)) (fun v h' hle1 hr => ?_); obtain ⟨s1, c1, d1, rfl, hok1⟩ := hr; conv => whnf))
   | ((first | refine opsI.step ?_ | refine codeI.step ?_); conv => whnf)
   | (intro (_ : Nat); conv => whnf)
   | (show cnd _ _ _; first
     | (refine cnd_not ?_)
     | (refine cnd_dec (fun _ => ?_) (fun _ => ?_) <;> first | (exfalso; omega) | (conv => whnf)))
   | (show LdN _ _ _ _ _; first
     | (refine LdN.own 0 rfl rfl ?_; conv => whnf))
   | (show Sto _ _ _ _; first
     | (refine Sto.lit 0 rfl rfl rfl ?_; conv => whnf))
  all_goals first
    | (rw [f2 (by assumption)]; exact RetN.all rfl)
    | skip
  obtain ⟨rfl, g1⟩ := hok1 (by assumption)
  have k1 : okR n1 l1 m1 := by assumption
  have y1 : Sz 1099511627776 (ratOf n1 l1 m1) := (okR.sz k1).mono (by decide)
  rw [f1 k1]
  repeat' first
   | (show CallN _ _ _ _ _ _; first
     | (refine CallN.quiet rfl (Sign_ct _ _ _ _ (by assumption) y1) ?_; conv => whnf))
   | ((first | refine opsI.step ?_ | refine codeI.step ?_); conv => whnf)
  exact RetN.all rfl

theorem Op1.neg : Op1 F.word_Frac_Opposite (fun q => -q) := fun h a b q tb h1 z1 =>
  (Opposite_ct h a b q h1 (z1.mono (by decide))).mono fun v h' _ r => ⟨a, b, r.2, by rw [r.1]; exact IsFr.neg h1⟩
theorem NNeg_ct (h : Heap) (tb : Tb h) (n1 : Bool) (a1 b1 : Sl) (l1 m1 : List Nat) (hv1 : IsVal h a1 b1 l1 m1) :
    Fn0 T F.number_Neg [.agg #[.bool n1, a1.val, b1.val]] h fun v h' => Res h' v (spec1 (fun q => -q) n1 l1 m1) := by
  refine fn0_of_codeI ok D.number_Neg rfl ?_
  conv => whnf
  repeat ((first | refine opsI.step ?_ | refine codeI.step ?_); conv => whnf)
  repeat' first
   | (show CallN _ _ _ _ _ _; first
     | (refine CallN.fn rfl (one_ct _ (by assumption) _ _ _ _ _ (by assumption) _ _ rfl Op1.neg (fun q a => (Sz.neg a).mono (by decide))) (fun v h' hl hr => ?_); obtain ⟨e1, e2, rfl, hq'⟩ := hr; conv => whnf))
   | ((first | refine opsI.step ?_ | refine codeI.step ?_); conv => whnf)
   | (intro (_ : Nat); conv => whnf)
   | (show LdN _ _ _ _ _; first
     | (refine LdN.own 0 rfl rfl ?_; conv => whnf)
     | (refine LdN.own 1 rfl rfl ?_; conv => whnf))
   | (show Sto _ _ _ _; first
     | (refine Sto.lit 0 rfl rfl rfl ?_; conv => whnf))
  exact RetN.all ⟨_, _, rfl, (by assumption)⟩
theorem Sz.abs {k : Nat} {q : Rat} (s : Sz k q) : Sz k (absQ q) := ⟨by rw [nu_abs]; exact s.num, by rw [den_abs]; exact s.den⟩
theorem IsFr.abs {h : Heap} {a b : Sl} {q : Rat} (w : IsFr h a b q) : IsFr h a b (absQ q) := ⟨by rw [nu_abs]; exact w.num, by rw [den_abs]; exact w.den⟩
theorem IsQ.abs {h : Heap} {a b : Sl} {q : Rat} (w : IsQ h a b q) : IsQ h a b (absQ q) := ⟨by rw [nu_abs]; exact w.num, by rw [den_abs]; exact w.den⟩
theorem Op1.abs : Op1 F.number_Abs_1 absQ := fun h a b q tb h1 z1 => by
  have g := IsFr.abs h1
  refine fn0_of_codeI ok D.number_Abs_1 rfl ?_
  conv => whnf
  repeat ((first | refine opsI.step ?_ | refine codeI.step ?_); conv => whnf)
  repeat' first
   | ((first | refine opsI.step ?_ | refine codeI.step ?_); conv => whnf)
   | (intro (_ : Nat); conv => whnf)
   | (show LdN _ _ _ _ _; first
     | (refine LdN.own 0 rfl rfl ?_; conv => whnf)
     | (refine LdN.own 1 rfl rfl ?_; conv => whnf))
   | (show Sto _ _ _ _; first
     | (refine Sto.lit 0 rfl rfl rfl ?_; conv => whnf)
     | (refine Sto.lit 1 rfl rfl rfl ?_; conv => whnf))
  exact RetN.all ⟨_, _, by rw [sg_abs] <;> rfl, (by assumption)⟩
theorem NAbs_ct (h : Heap) (tb : Tb h) (n1 : Bool) (a1 b1 : Sl) (l1 m1 : List Nat) (hv1 : IsVal h a1 b1 l1 m1) :
    Fn0 T F.number_Abs [.agg #[.bool n1, a1.val, b1.val]] h fun v h' => Res h' v (spec1 absQ n1 l1 m1) := by
  refine fn0_of_codeI ok D.number_Abs rfl ?_
  conv => whnf
  repeat ((first | refine opsI.step ?_ | refine codeI.step ?_); conv => whnf)
  repeat' first
   | (show CallN _ _ _ _ _ _; first
     | (refine CallN.fn rfl (one_ct _ (by assumption) _ _ _ _ _ (by assumption) _ _ rfl Op1.abs (fun q a => (Sz.abs a).mono (by decide))) (fun v h' hl hr => ?_); obtain ⟨e1, e2, rfl, hq'⟩ := hr; conv => whnf))
   | ((first | refine opsI.step ?_ | refine codeI.step ?_); conv => whnf)
   | (intro (_ : Nat); conv => whnf)
   | (show LdN _ _ _ _ _; first
     | (refine LdN.own 0 rfl rfl ?_; conv => whnf)
     | (refine LdN.own 1 rfl rfl ?_; conv => whnf))
   | (show Sto _ _ _ _; first
     | (refine Sto.lit 0 rfl rfl rfl ?_; conv => whnf))
  exact RetN.all ⟨_, _, rfl, (by assumption)⟩
theorem Mag_q (h : Heap) (a b : Sl) (q : Rat) : Fn0 T F.ref01_Mag [.agg #[.bool (sg q), a.val, b.val]] h fun v h' => h' = h ∧ v = .agg #[.bool (sg (absQ q)), a.val, b.val] := by
  refine fn0_of_codeI ok D.ref01_Mag rfl ?_
  conv => whnf
  repeat ((first | refine opsI.step ?_ | refine codeI.step ?_); conv => whnf)
  repeat' first
   | ((first | refine opsI.step ?_ | refine codeI.step ?_); conv => whnf)
   | (intro (_ : Nat); conv => whnf)
   | (show LdN _ _ _ _ _; first
     | (refine LdN.own 0 rfl rfl ?_; conv => whnf))
   | (show Ld _ _ _ _; first
     | (refine Ld.own 1 rfl rfl ?_; conv => whnf))
   | (show Sto _ _ _ _; first
     | (refine Sto.lit 0 rfl rfl rfl ?_; conv => whnf))
  exact RetN.all ⟨rfl, by rw [sg_abs] <;> rfl⟩
end Go.Proofs.YteblflmnhegmjaaDoor
