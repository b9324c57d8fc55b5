/- What Parse makes of a text that Format has made. -/
import Derived.Test.YteblflmnhegmjaaDoorP3
import Derived.Test.YteblflmnhegmjaaDoorU2
set_option linter.unusedVariables false
set_option linter.unusedSimpArgs false
namespace Go.Dig
theorem tw_app (a b : List Nat) (ha : ∀ x ∈ a, dgt x = true) (hb : ∀ c, b.head? = some c → dgt c = false) : (a ++ b).takeWhile dgt = a ∧ (a ++ b).dropWhile dgt = b := by
  induction a with
  | nil =>
    cases b with
    | nil => simp
    | cons c b => simp [hb c rfl]
  | cons c a ih =>
    have h1 := ha c List.mem_cons_self
    have := ih fun x hx => ha x (List.mem_cons_of_mem _ hx)
    simp [h1, this]
theorem natL_rev (ds : List Nat) : natL ((ds.map (48 + ·)).reverse) = evl 10 ds := by
  induction ds with
  | nil => simp [natL, evl_nil]
  | cons c ds ih =>
    rw [List.map_cons, List.reverse_cons, natL_snoc, ih, evl_cons]; omega
theorem pow_lem (B t a K J x y z : Nat) (hJ : J = z * z) (hK : K = x + y * z) (h1 : B ^ z ≤ a * t ^ y) (h2 : a ^ z ≤ t ^ x) : B ^ J ≤ t ^ K := by
  subst hJ hK
  rw [Nat.pow_add, Nat.pow_mul, Nat.pow_mul]
  refine Nat.le_trans (Nat.pow_le_pow_left h1 z) ?_
  rw [Nat.mul_pow]
  exact Nat.mul_le_mul_right _ h2
end Go.Dig
namespace Go.Proofs.YteblflmnhegmjaaDoor
open Go Go.Vc Go.Dig
theorem decL_dig (n : Nat) : ∀ x ∈ decL n, dgt x = true := fun x hx => by
  unfold decL at hx
  split at hx
  · simp at hx; subst hx; rfl
  · rw [List.mem_reverse] at hx
    obtain ⟨y, hy, rfl⟩ := List.mem_map.1 hx
    have := dg_lt two_le_10 n y hy
    exact dgt_iff.2 ⟨by omega, by omega⟩
theorem decL_ne (n : Nat) : decL n ≠ [] := by
  unfold decL
  split
  · simp
  · rename_i h
    rw [dg_pos two_le_10 h]; simp
theorem natL_decL (n : Nat) : natL (decL n) = n := by
  unfold decL
  split
  · rename_i h; subst h; rfl
  · rw [natL_rev, evl_dg two_le_10]
theorem decL_617 {n : Nat} (h : ln 4294967296 n ≤ 64) : (decL n).length ≤ 617 := by
  have h1 : ln 10 n ≤ 617 := by
    rw [ln_le_iff two_le_10]
    exact Nat.lt_of_lt_of_le ((ln_le_iff two_le_B).1 h) (pow_lem 4294967296 10 11580 617 64 33 73 8 rfl rfl (by decide) (by decide))
  unfold decL
  split
  · simp
  · unfold ln at h1; simpa using h1
theorem parse_den {neg : Bool} {n d : Nat} (hd : d ≠ 0) : parse3 neg (decL n) ([47] ++ decL d) = outR (mkQ neg n d) := by
  have := tw_app (decL d) [] (decL_dig d) (fun c h => by cases h)
  rw [List.append_nil] at this
  show parse4 neg (decL n) 47 ((decL d).takeWhile dgt) ((decL d).dropWhile dgt) = _
  rw [this.1, this.2]
  unfold parse4
  rw [if_neg (by simp [decL_ne]), if_neg (by decide), if_pos rfl, natL_decL, natL_decL, if_neg hd]
theorem parse_fmt {q : Rat} (hf : fits q) : parseL (fmtL q) = (q, 0) := by
  have l1 := decL_617 hf.1
  have l2 := decL_617 hf.2
  have hd := q.den_nz
  have hq : outR q = (q, 0) := if_pos hf
  have hself := mkQ_self q
  have tw : ∀ t, (∀ c, t.head? = some c → dgt c = false) → (decL (nu q) ++ t).takeWhile dgt = decL (nu q) ∧ (decL (nu q) ++ t).dropWhile dgt = t := fun t ht => tw_app _ t (decL_dig _) ht
  obtain ⟨T, hT⟩ : ∃ T, T = (if q.den = 1 then ([] : List Nat) else [47] ++ decL q.den) := ⟨_, rfl⟩
  have lT : T.length ≤ 618 := by rw [hT]; split <;> simp; omega
  have hTh : ∀ c, T.head? = some c → dgt c = false := fun c hc => by
    rw [hT] at hc
    split at hc
    · cases hc
    · simp at hc; subst hc; rfl
  have p3 : ∀ neg, neg = sg q → parse3 neg (decL (nu q)) T = (q, 0) := fun neg hn => by
    rw [hT, hn]
    split
    · rename_i h1
      show (if decL (nu q) = [] then (0, 3) else outR (mkQ (sg q) (natL (decL (nu q))) 1)) = (q, 0)
      rw [if_neg (decL_ne _), natL_decL]
      rw [h1] at hself
      rw [hself, hq]
    · rw [parse_den hd, hself, hq]
  have hfm : fmtL q = (if sg q then [45] ++ decL (nu q) else decL (nu q)) ++ T := by rw [hT]; rfl
  have hneg : ∀ t, (decL (nu q) ++ t).head? ≠ some 45 := fun t h => by
    obtain ⟨c, m, hc⟩ : ∃ c m, decL (nu q) = c :: m := by
      match e : decL (nu q) with
      | [] => exact (decL_ne _ e).elim
      | c :: m => exact ⟨c, m, rfl⟩
    have := decL_dig (nu q) c (by rw [hc]; exact List.mem_cons_self)
    rw [hc] at h
    simp at h
    subst h
    exact absurd this (by decide)
  unfold parseL
  rw [hfm]
  cases hs : sg q with
  | true =>
    rw [if_pos rfl, if_neg (by simp; omega), if_pos (by simp)]
    simp only [List.cons_append, List.nil_append, List.tail_cons, List.append_assoc]
    rw [(tw T hTh).1, (tw T hTh).2]
    exact p3 true hs.symm
  | false =>
    simp only [Bool.false_eq_true, if_false]
    rw [if_neg (by simp; omega), if_neg (hneg T), (tw T hTh).1, (tw T hTh).2]
    exact p3 false hs.symm
theorem Fok.parse4 (neg : Bool) (hd : List Nat) (c : Nat) (tl rest : List Nat) : Fok (Proofs.YteblflmnhegmjaaDoor.parse4 neg hd c tl rest) := by
  unfold Proofs.YteblflmnhegmjaaDoor.parse4
  split
  · exact Fok.err1 3
  · split
    · exact Fok.out _
    · split
      · split
        · exact Fok.err1 10
        · exact Fok.out _
      · exact Fok.out _
theorem Fok.parse3 (neg : Bool) (hd : List Nat) (r : List Nat) : Fok (Proofs.YteblflmnhegmjaaDoor.parse3 neg hd r) := by
  cases r with
  | nil =>
    show Fok (if hd = [] then (0, 3) else outR (mkQ neg (natL hd) 1))
    split
    · exact Fok.err1 3
    · exact Fok.out _
  | cons c r => exact Fok.parse4 _ _ _ _ _
theorem Fok.parseL (l : List Nat) : Fok (Proofs.YteblflmnhegmjaaDoor.parseL l) := by
  unfold Proofs.YteblflmnhegmjaaDoor.parseL
  split
  · exact Fok.err1 4
  · split
    · exact Fok.parse3 _ _ _
    · exact Fok.parse3 _ _ _
theorem fmtL_lt (q : Rat) : ∀ y ∈ fmtL q, y < 256 := fun y hy => by
  have d1 : ∀ n, ∀ y ∈ decL n, y < 256 := fun n y hy => by have := dgt_iff.1 (decL_dig n y hy); omega
  unfold fmtL at hy
  rcases List.mem_append.1 hy with h | h
  · split at h
    · rcases List.mem_append.1 h with h | h
      · simp at h; omega
      · exact d1 _ y h
    · exact d1 _ y h
  · split at h
    · cases h
    · rcases List.mem_append.1 h with h | h
      · simp at h; omega
      · exact d1 _ y h
def fmtR : Option Rat → List Nat × Int
  | some q => (fmtL q, 0)
  | none => ([], 1)
theorem FormatN (h : Heap) (n1 : Bool) (a1 b1 : Sl) (x : Option Rat) (tb : Tb h) (hx : IsNum h n1 a1 b1 x) :
    Fn0 T F.number_Format [.agg #[.bool n1, a1.val, b1.val]] h fun v _ => v = .tuple #[.string (txt (fmtR x).1), .int .i64 (fmtR x).2] := by
  obtain ⟨l1, m1, v1, rfl⟩ := hx.ex
  have := NFormat_ct h tb n1 a1 b1 l1 m1 v1
  have e : specFmt n1 l1 m1 = fmtR (valOf n1 l1 m1) := by
    unfold specFmt valOf
    by_cases h1 : okR n1 l1 m1 <;> simp [h1, fmtR]
  rw [← e]; exact this
theorem ParseN (h : Heap) (l : List Nat) (tb : Tb h) (hb : ∀ y ∈ l, y < 256) : Fn0 T F.number_Parse [.string (txt l)] h fun v h' => ResN h' v (parseL l) :=
  (Parse_ct h tb l hb).mono fun v h' _ r => r.isn (Fok.parseL l)
end Go.Proofs.YteblflmnhegmjaaDoor
