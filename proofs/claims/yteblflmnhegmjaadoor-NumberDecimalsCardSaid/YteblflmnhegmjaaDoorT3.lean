/- Texts of numbers: Format, the reference's Text and Format; what the statement on formats computes: true. -/
import Derived.Test.YteblflmnhegmjaaDoorT2
import Derived.Test.YteblflmnhegmjaaDoorL4
set_option linter.unusedVariables false
set_option linter.unusedSimpArgs false
namespace Go.Vc
open Go
theorem txt_append (a b : List Nat) : txt a ++ txt b = txt (a ++ b) := by
  unfold txt
  apply ByteArray.ext
  simp [ByteArray.data_append]
theorem txt_size (a : List Nat) : (txt a).size = a.length := by unfold txt; simp [ByteArray.size]
theorem Cat.txt {a b : List Nat} {x y : ByteArray} {k : ByteArray → Prop} (hx : x = Vc.txt a) (hy : y = Vc.txt b) (hl : a.length + b.length ≤ 1000000000) (hk : k (Vc.txt (a ++ b))) : Cat x y k := by
  subst hx hy
  exact ⟨by rw [txt_size, txt_size]; omega, by rw [txt_append]; exact hk⟩
end Go.Vc
namespace Go.Proofs.YteblflmnhegmjaaDoor
open Go Go.Vc Go.Dig
/-- the text of a number, as bytes -/
def fmtL (q : Rat) : List Nat := (if sg q then [45] ++ decL (nu q) else decL (nu q)) ++ (if q.den = 1 then [] else [47] ++ decL q.den)
def specFmt (n1 : Bool) (l1 m1 : List Nat) : List Nat × Int := if okR n1 l1 m1 then (fmtL (ratOf n1 l1 m1), 0) else ([], 1)
theorem ln10' {n : Nat} (k : Nat) (h : ln 4294967296 n ≤ k) : ln 10 n ≤ 10 * k := by
  rw [ln_le_iff two_le_10]
  have h1 := (ln_le_iff two_le_B).1 h
  refine Nat.lt_of_lt_of_le h1 ?_
  rw [Nat.pow_mul]
  exact Nat.pow_le_pow_left (by decide) k
theorem ln10 {n : Nat} (h : ln 4294967296 n ≤ 64) : ln 10 n ≤ 640 := ln10' 64 h
theorem decL_len {n : Nat} (h : ln 4294967296 n ≤ 64) : (decL n).length ≤ 641 := by
  have := ln10 h
  unfold decL
  split
  · simp
  · unfold ln at this; simp; omega
set_option maxRecDepth 20000 in
set_option maxHeartbeats 1000000 in
theorem NFormat_ct (h : Heap) (tb : Tb h) (n1 : Bool) (a1 b1 : Sl) (l1 m1 : List Nat) (hv1 : IsVal h a1 b1 l1 m1) :
    Fn0 T F.number_Format [.agg #[.bool n1, a1.val, b1.val]] h fun v _ => v = .tuple #[.string (txt (specFmt n1 l1 m1).1), .int .i64 (specFmt n1 l1 m1).2] := by
  have f1 : okR n1 l1 m1 → specFmt n1 l1 m1 = (fmtL (ratOf n1 l1 m1), 0) := fun x => if_pos x
  have f2 : ¬ okR n1 l1 m1 → specFmt n1 l1 m1 = ([], 1) := fun x => if_neg x
  refine fn0_of_codeI ok D.number_Format rfl ?_
  conv => whnf
  repeat ((first | refine opsI.step ?_ | refine codeI.step ?_); conv => whnf)
  repeat' first
   | (show CallN _ _ _ _ _ _; first
     | (refine CallN.fn rfl (Read_ct _ (by assumption) _ _ _ l1 m1 (by assumption)) (fun v h' hle1 hr => ?_); obtain ⟨s1, c1, d1, rfl, hok1⟩ := hr; conv => whnf))
   | ((first | refine opsI.step ?_ | refine codeI.step ?_); conv => whnf)
   | (intro (_ : Nat); conv => whnf)
   | (show cnd _ _ _; first
     | (refine cnd_not ?_)
     | (refine cnd_dec (fun _ => ?_) (fun _ => ?_) <;> first | (exfalso; omega) | (conv => whnf)))
   | (show LdN _ _ _ _ _; first
     | (refine LdN.own 0 rfl rfl ?_; conv => whnf))
   | (show Ld _ _ _ _; first
     | (refine Ld.own 0 rfl rfl ?_; conv => whnf))
   | (show Sto _ _ _ _; first
     | (refine Sto.lit 0 rfl rfl rfl ?_; conv => whnf))
  all_goals first
    | (rw [f2 (by assumption)]; exact RetN.all rfl)
    | skip
  obtain ⟨rfl, g1⟩ := hok1 (by assumption)
  have k1 : okR n1 l1 m1 := by assumption
  have z1 := okR.sz k1
  have t1 := z1.num
  have t2 := z1.den
  have i1 := g1.num
  have i2 := g1.den
  have u1 := decL_len t1
  have u2 := decL_len t2
  have w1 := ln10 t1
  have w2 := ln10 t2
  rw [f1 k1]
  unfold fmtL
  clear f1 f2 k1 z1 g1 hok1
  obtain ⟨x, hx⟩ : ∃ x, x = nu (ratOf n1 l1 m1) := ⟨_, rfl⟩
  obtain ⟨y, hy⟩ : ∃ y, y = (ratOf n1 l1 m1).den := ⟨_, rfl⟩
  obtain ⟨s, hs⟩ : ∃ s, s = sg (ratOf n1 l1 m1) := ⟨_, rfl⟩
  rw [← hx] at t1 i1 u1 w1
  rw [← hy] at t2 i2 u2 w2
  rw [← hx, ← hy, ← hs]
  have c1' := fun h i => decimal_ct h c1 x i (by omega) (by omega)
  have c2' := fun h i => decimal_ct h d1 y i (by omega) (by omega)
  obtain ⟨X, hX⟩ : ∃ X, X = decL x := ⟨_, rfl⟩
  obtain ⟨Y, hY⟩ : ∃ Y, Y = decL y := ⟨_, rfl⟩
  rw [← hX] at u1 c1'
  rw [← hY] at u2 c2'
  rw [← hX, ← hY]
  clear hx hs hX hY
  repeat' first
   | (show SeqN _ _ _ _ _ _ _; first
     | (refine SeqN.go ?_; conv => whnf))
   | (show CallN _ _ _ _ _ _; first
     | (refine CallN.quiet rfl (One_ct _ _ _ (by (iterate 30 (try first | assumption | refine Ws.mono ?_ (by assumption))); first | done | assumption) (by omega)) ?_; conv => whnf)
     | (refine CallN.fn rfl (c1' _ (by assumption)) (fun v h' hl hr => ?_); obtain rfl := hr; conv => whnf)
     | (refine CallN.fn rfl (c2' _ (by (iterate 30 (try first | assumption | refine IsNat.mono ?_ (by assumption))); first | done | assumption)) (fun v h' hl hr => ?_); obtain rfl := hr; conv => whnf))
   | (show Cat _ _ _; first
     | (refine Cat.txt (a := [45]) rfl rfl (by simp; omega) ?_; conv => whnf)
     | (refine Cat.txt (a := [47]) rfl rfl (by simp; omega) ?_; conv => whnf)
     | (refine Cat.txt rfl rfl (by simp; omega) ?_; conv => whnf))
   | ((first | refine opsI.step ?_ | refine codeI.step ?_); conv => whnf)
   | (show cnd _ _ _; first
     | (refine cnd_not ?_)
     | (refine cnd_dec (fun _ => ?_) (fun _ => ?_) <;> first | (exfalso; omega) | (conv => whnf))
     | (refine cnd_bool (fun hb => ?_) (fun hb => ?_) <;> (first | cases hb | subst hb) <;> (conv => whnf)))
   | (show Ld _ _ _ _; first
     | (refine Ld.own 0 rfl rfl ?_; conv => whnf))
  all_goals refine RetN.all ?_
  all_goals first
    | (have hy1 : y = 1 := by assumption
       simp [hy1])
    | (have hy1 : ¬ y = 1 := by assumption
       simp [hy1])

end Go.Proofs.YteblflmnhegmjaaDoor
