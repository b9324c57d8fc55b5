/- Numbers that a value denotes, with none for a large one: contracts for laws that chain operations; whether two values of any kind are equal. -/
import Derived.Test.YtdemgbmndijkkaaGreatDoorL4
import Derived.Test.YtdemgbmndijkkaaGreatDoorVcMeet
import Derived.Test.YtdemgbmndijkkaaGreatDoorR6
import Derived.Laws.IdiomStrings
import Derived.Test.YtdemgbmndijkkaaGreatDoorRep3
set_option linter.unusedVariables false
set_option linter.unusedSimpArgs false
namespace Go.Dig
theorem mkQ_zero_iff (neg : Bool) {m n : Nat} (hn : n ≠ 0) : mkQ neg m n = 0 ↔ m = 0 := by
  rw [← nu_eq_zero, nu_mkQ neg hn]
  constructor
  · intro h
    have := Nat.div_mul_cancel (Nat.gcd_dvd_left m n)
    rw [h] at this; omega
  · rintro rfl; simp
theorem mkQ_eq_pos {a b : Bool} {m n k l : Nat} (hm : m ≠ 0) (hk : k ≠ 0) (hn : n ≠ 0) (hl : l ≠ 0) : mkQ a m n = mkQ b k l ↔ a = b ∧ m * l = k * n := by
  rw [mkQ_eq_iff hn hl]
  have p1 : 0 < m * l := Nat.mul_pos (by omega) (by omega)
  have p2 : 0 < k * n := Nat.mul_pos (by omega) (by omega)
  have e1 : (m : Int) * l = ((m * l : Nat) : Int) := by simp
  have e2 : (k : Int) * n = ((k * n : Nat) : Int) := by simp
  cases a <;> cases b <;> simp only [if_true, if_false, Bool.false_eq_true, Int.neg_mul, e1, e2, true_and, false_and, Bool.true_eq_false] <;> clear e1 e2 <;> generalize m * l = X at * <;> generalize k * n = Y at * <;> first | omega | (constructor <;> intro hh <;> first | (exfalso; omega) | exact hh.elim)
end Go.Dig
namespace Go.Proofs.YtdemgbmndijkkaaGreatDoor
open Go Go.Vc Go.Dig

theorem ln16_if {l : List Nat} (hl : ∀ x ∈ l, x < 4294967296) : ln 65536 (if evl 4294967296 l = 0 then 1 else evl 4294967296 l) ≤ 2 * l.length + 1 := by
  have h := ln16_le hl
  have p := ln_one 65536 two_le_b
  split <;> omega
/-- the number that a value denotes; none: it is large -/
def valOf (n : Bool) (l m : List Nat) : Option Rat := if okR n l m then some (ratOf n l m) else none
structure IsNum (h : Heap) (n : Bool) (a b : Sl) (x : Option Rat) : Prop where
  ex : ∃ l m, IsVal h a b l m ∧ x = valOf n l m
theorem IsNum.mono {h h' : Heap} {n : Bool} {a b : Sl} {x : Option Rat} (w : IsNum h n a b x) (hl : h.le h') : IsNum h' n a b x := by
  obtain ⟨l, m, v, e⟩ := w.ex
  exact ⟨l, m, v.mono hl, e⟩
theorem IsVal.num' {h : Heap} {n : Bool} {a b : Sl} {l m : List Nat} (v : IsVal h a b l m) : IsNum h n a b (valOf n l m) := ⟨l, m, v, rfl⟩
/-- a result: its number is not large -/
structure Fok (p : Rat × Int) : Prop where
  ft : fits p.1
  err : p.2 ≠ 0 → p.1 = 0
theorem fits_sz {q : Rat} (h : fits q) : Sz 1073741824 q := ⟨Nat.le_trans h.1 (by decide), Nat.le_trans h.2 (by decide)⟩
theorem Fok.sz {p : Rat × Int} (k : Fok p) : Sz 1073741824 p.1 := fits_sz k.ft
theorem Fok.rok {p : Rat × Int} (k : Fok p) : Rok p := ⟨k.sz, k.err⟩
theorem fits_zero : fits 0 := by
  have h := sz_zero 0
  exact ⟨Nat.le_trans h.num (by decide), Nat.le_trans h.den (by decide)⟩
theorem Fok.err1 (e : Int) : Fok (0, e) := ⟨fits_zero, fun _ => rfl⟩
theorem Fok.out (q : Rat) : Fok (outR q) := by
  unfold outR
  split
  · rename_i h; exact ⟨h, fun x => absurd rfl x⟩
  · exact Fok.err1 1
theorem IsRat.isnum {h : Heap} {a b : Sl} {q : Rat} (w : IsRat h a b q) (hf : fits q) : IsNum h (sg q) a b (some q) :=
  ⟨_, _, israt_val w (fits_sz hf), by unfold valOf; rw [if_pos (okR_dg hf), ratOf_dg]⟩

/-- an operation on two numbers -/
def opR (op : Rat → Rat → Rat) : Option Rat → Option Rat → Rat × Int
  | some x, some y => outR (op x y)
  | _, _ => (0, 1)
theorem opR_val (op : Rat → Rat → Rat) (n1 : Bool) (l1 m1 : List Nat) (n2 : Bool) (l2 m2 : List Nat) : spec2 op n1 l1 m1 n2 l2 m2 = opR op (valOf n1 l1 m1) (valOf n2 l2 m2) := by
  unfold spec2 valOf
  by_cases h1 : okR n1 l1 m1 <;> by_cases h2 : okR n2 l2 m2 <;> simp [h1, h2, opR]
theorem Fok.opR (op : Rat → Rat → Rat) (x y : Option Rat) : Fok (opR op x y) := by
  cases x <;> cases y <;> first | exact Fok.out _ | exact Fok.err1 1
theorem outR_ok {q : Rat} (h : (outR q).2 = 0) : (outR q).1 = q := by
  unfold outR at *
  split
  · rfl
  · rename_i hf; rw [if_neg hf] at h; cases h
theorem opR_ok {op : Rat → Rat → Rat} {x y : Option Rat} (h : (Proofs.YtdemgbmndijkkaaGreatDoor.opR op x y).2 = 0) : ∃ a b, x = some a ∧ y = some b ∧ (Proofs.YtdemgbmndijkkaaGreatDoor.opR op x y).1 = op a b := by
  cases x with
  | none => exact absurd h (by simp [Proofs.YtdemgbmndijkkaaGreatDoor.opR])
  | some a =>
    cases y with
    | none => exact absurd h (by simp [Proofs.YtdemgbmndijkkaaGreatDoor.opR])
    | some b => exact ⟨a, b, rfl, rfl, outR_ok h⟩
/-- a quotient -/
def divR : Option Rat → Option Rat → Rat × Int
  | some x, some y => if nu y = 0 then (0, 10) else outR (x / y)
  | _, _ => (0, 1)
theorem divR_val (n1 : Bool) (l1 m1 : List Nat) (n2 : Bool) (l2 m2 : List Nat) : specDiv n1 l1 m1 n2 l2 m2 = divR (valOf n1 l1 m1) (valOf n2 l2 m2) := by
  unfold specDiv valOf
  by_cases h1 : okR n1 l1 m1 <;> by_cases h2 : okR n2 l2 m2 <;> simp [h1, h2, divR]
theorem Fok.divR (x y : Option Rat) : Fok (divR x y) := by
  cases x with
  | none => exact Fok.err1 1
  | some a =>
    cases y with
    | none => exact Fok.err1 1
    | some b =>
      show Fok (if nu b = 0 then (0, 10) else outR (a / b))
      by_cases hb : nu b = 0
      · rw [if_pos hb]; exact Fok.err1 10
      · rw [if_neg hb]; exact Fok.out _
theorem divR_ok {x y : Option Rat} (h : (Proofs.YtdemgbmndijkkaaGreatDoor.divR x y).2 = 0) : ∃ a b, x = some a ∧ y = some b ∧ b ≠ 0 ∧ (Proofs.YtdemgbmndijkkaaGreatDoor.divR x y).1 = a / b := by
  cases x with
  | none => exact absurd h (by simp [Proofs.YtdemgbmndijkkaaGreatDoor.divR])
  | some a =>
    cases y with
    | none => exact absurd h (by simp [Proofs.YtdemgbmndijkkaaGreatDoor.divR])
    | some b =>
      by_cases hb : nu b = 0
      · exact absurd h (by simp [Proofs.YtdemgbmndijkkaaGreatDoor.divR, hb])
      · refine ⟨a, b, rfl, rfl, fun e => hb (nu_eq_zero.2 e), ?_⟩
        have e : Proofs.YtdemgbmndijkkaaGreatDoor.divR (some a) (some b) = outR (a / b) := if_neg hb
        rw [e] at h ⊢
        exact outR_ok h

/-- a result that is handed on -/
def ResN (h : Heap) (v : Value) (p : Rat × Int) : Prop := ∃ a b : Sl, v = .tuple #[.agg #[.bool (sg p.1), a.val, b.val], .int .i64 p.2] ∧ IsRat h a b p.1 ∧ IsNum h (sg p.1) a b (some p.1)
theorem Res.isn {h : Heap} {v : Value} {p : Rat × Int} (r : Res h v p) (k : Fok p) : ResN h v p := by
  obtain ⟨a, b, e, w⟩ := r
  exact ⟨a, b, e, w, w.isnum k.ft⟩
theorem AddN (h : Heap) (n1 : Bool) (a1 b1 : Sl) (n2 : Bool) (a2 b2 : Sl) (x y : Option Rat) (tb : Tb h) (hx : IsNum h n1 a1 b1 x) (hy : IsNum h n2 a2 b2 y) :
    Fn0 T F.number_Add [.agg #[.bool n1, a1.val, b1.val], .agg #[.bool n2, a2.val, b2.val]] h fun v h' => ResN h' v (opR (· + ·) x y) := by
  obtain ⟨l1, m1, v1, rfl⟩ := hx.ex
  obtain ⟨l2, m2, v2, rfl⟩ := hy.ex
  rw [← opR_val]
  exact (NAdd_ct h n1 a1 b1 l1 m1 n2 a2 b2 l2 m2 tb v1 v2).mono fun v h' _ r => r.isn (by rw [opR_val]; exact Fok.opR _ _ _)
theorem SubN (h : Heap) (n1 : Bool) (a1 b1 : Sl) (n2 : Bool) (a2 b2 : Sl) (x y : Option Rat) (tb : Tb h) (hx : IsNum h n1 a1 b1 x) (hy : IsNum h n2 a2 b2 y) :
    Fn0 T F.number_Sub [.agg #[.bool n1, a1.val, b1.val], .agg #[.bool n2, a2.val, b2.val]] h fun v h' => ResN h' v (opR (· - ·) x y) := by
  obtain ⟨l1, m1, v1, rfl⟩ := hx.ex
  obtain ⟨l2, m2, v2, rfl⟩ := hy.ex
  rw [← opR_val]
  exact (NSub_ct h n1 a1 b1 l1 m1 n2 a2 b2 l2 m2 tb v1 v2).mono fun v h' _ r => r.isn (by rw [opR_val]; exact Fok.opR _ _ _)
theorem MulN (h : Heap) (n1 : Bool) (a1 b1 : Sl) (n2 : Bool) (a2 b2 : Sl) (x y : Option Rat) (tb : Tb h) (hx : IsNum h n1 a1 b1 x) (hy : IsNum h n2 a2 b2 y) :
    Fn0 T F.number_Mul [.agg #[.bool n1, a1.val, b1.val], .agg #[.bool n2, a2.val, b2.val]] h fun v h' => ResN h' v (opR (· * ·) x y) := by
  obtain ⟨l1, m1, v1, rfl⟩ := hx.ex
  obtain ⟨l2, m2, v2, rfl⟩ := hy.ex
  rw [← opR_val]
  exact (NMul_ct h tb n1 a1 b1 l1 m1 n2 a2 b2 l2 m2 v1 v2).mono fun v h' _ r => r.isn (by rw [opR_val]; exact Fok.opR _ _ _)
theorem DivN (h : Heap) (n1 : Bool) (a1 b1 : Sl) (n2 : Bool) (a2 b2 : Sl) (x y : Option Rat) (tb : Tb h) (hx : IsNum h n1 a1 b1 x) (hy : IsNum h n2 a2 b2 y) :
    Fn0 T F.number_Div [.agg #[.bool n1, a1.val, b1.val], .agg #[.bool n2, a2.val, b2.val]] h fun v h' => ResN h' v (divR x y) := by
  obtain ⟨l1, m1, v1, rfl⟩ := hx.ex
  obtain ⟨l2, m2, v2, rfl⟩ := hy.ex
  rw [← divR_val]
  exact (NDiv_ct h tb n1 a1 b1 l1 m1 n2 a2 b2 l2 m2 v1 v2).mono fun v h' _ r => r.isn (by rw [divR_val]; exact Fok.divR _ _)
end Go.Proofs.YtdemgbmndijkkaaGreatDoor
/- Texts: bytes put together to a string; a row of bytes turned round; the decimal digits of a number. -/
namespace Go.Vc
open Go
/-- the text of a list of bytes -/
def txt (l : List Nat) : ByteArray := ⟨(l.map UInt8.ofNat).toArray⟩
theorem Ext.text {T : Tab} {h : Heap} {L : Own} {k : Value → Heap → Own → Prop} {s d e : TypeId} {x : Operand} {v : Value} {n : Nat} {xs : List Nat}
    (hs : T.und s = some (.slice e)) (he : T.und e = some (.int .u8)) (hd : T.und d = some .string) (g : GrowS e 1 v n (xs.map (vu .u8)) L) (hb : ∀ y ∈ xs, y < 256) (hne : xs ≠ []) (hk : k (.string (txt xs)) h L) :
    Ext T (.convert s d x) [x] [v] h L k := by
  obtain ⟨g1, ⟨rfl, rfl⟩ | ⟨i, b, cap, zs, rfl, h2, h3, -⟩⟩ := g
  · exact absurd (List.eq_nil_of_length_eq_zero (by simpa using g1)) hne
  · refine ⟨fun ok o ρ K Q w0 h0 L0 w hop hargs inv hout _ hK => .inl ?_⟩
    have hn : n = (xs.map UInt8.ofNat).length := by simpa using g1.symm
    simp only [List.map_cons, List.map_nil, List.cons.injEq, and_true] at hargs
    have hrun := run_convert_bytes_back (P := T.prog) w s d e ⟨b, 0, none⟩ cap (xs.map UInt8.ofNat) (ok.und _ _ hs) (ok.und _ _ he) (ok.und _ _ hd) (fun j hj => by
      have hj' : j < xs.length := by simpa using hj
      have hc : Has h L ((⟨b, 0, none⟩ : Addr).add j) (.int .u8 ((xs.getD j 0 : Nat) : Int)) := by
        rw [add_lit, Nat.zero_add]
        refine Has.own i h2 ?_
        simp [hj', vu, List.getElem?_append_left, List.getD_eq_getElem?_getD]
      rw [inv.toSat.cell hc]
      have hlt : xs[j] < 256 := hb _ (List.getElem_mem hj')
      simp [hj', List.getD_eq_getElem?_getD, Nat.mod_eq_of_lt hlt])
    refine wp_value (w' := w) (v := .string (txt xs)) ?_ (hK _ _ _ _ inv hk)
    rw [← hn] at hrun
    simp only [execOp, hop, Sem.run_bind, hargs, hrun]
    rfl
end Go.Vc
namespace Go.Proofs.YtdemgbmndijkkaaGreatDoor
open Go Go.Vc Go.Dig

theorem Ld.rz {h : Heap} {L : Own} {b i : Nat} {k : Value → Prop} {kd : IntKind} {T : TypeId} {u : List Nat} {zs : List Value} (n : Nat) (hb : L[n]? = some (b, RowZ kd T u zs)) (ho : i < u.length) (hk : k (.int kd ((u.getD i 0 : Nat) : Int))) : Ld h L ⟨b, i, none⟩ k :=
  Ld.own n hb (by simp [ho, vu, List.getElem?_append_left, List.getD_eq_getElem?_getD]) hk
theorem Sto.rz {L : Own} {b i : Nat} {kd : IntKind} {T : TypeId} {u : List Nat} {zs : List Value} {v : Int} {k : Own → Prop} (n : Nat) (hb : L[n]? = some (b, RowZ kd T u zs)) (x : Nat) (hx : v = x) (hl : i < u.length)
    (hk : setK (b, RowZ kd T (u.set i x) zs) L n k) : Sto L ⟨b, i, none⟩ [.int kd v] k := by
  subst hx
  refine Sto.sym n hb (by simp; omega) rfl ?_
  have : (u.map (vu kd) ++ zs).set i (.int kd x) = (u.set i x).map (vu kd) ++ zs := by
    rw [List.set_append_left _ _ (by simpa using hl), List.map_set]; rfl
  rw [this]; exact hk
theorem getD_set' (l : List Nat) (a x i : Nat) : (l.set a x).getD i 0 = if a = i ∧ a < l.length then x else l.getD i 0 := by
  rw [List.getD_eq_getElem?_getD, List.getElem?_set, List.getD_eq_getElem?_getD]
  by_cases h1 : a = i
  · subst h1
    by_cases h2 : a < l.length
    · simp [h2]
    · rw [if_pos rfl, if_neg h2, if_neg (fun hh => h2 hh.2), List.getElem?_eq_none (by omega)]
  · rw [if_neg h1, if_neg (fun hh => h1 hh.1)]

/-- the decimal digits of a number, as bytes -/
def decL (n : Nat) : List Nat := if n = 0 then [48] else ((dg 10 n).map (48 + ·)).reverse
theorem two_le_10 : 2 ≤ 10 := by decide
theorem dg10_lt (n : Nat) : ∀ y ∈ (dg 10 n).map (48 + ·), y < 256 := fun y hy => by
  obtain ⟨x, hx, rfl⟩ := List.mem_map.1 hy
  have := dg_lt two_le_10 n x hx
  omega
end Go.Proofs.YtdemgbmndijkkaaGreatDoor
/- Texts: the reference's decimal digits of a number. -/
namespace Go.Proofs.YtdemgbmndijkkaaGreatDoor
open Go Go.Vc Go.Dig

theorem getD_map48 {ds : List Nat} {j : Nat} (hj : j < ds.length) : (ds.map (48 + ·)).getD j 0 = 48 + ds.getD j 0 := by
  simp [List.getD_eq_getElem?_getD, hj]
theorem drop_snoc {l : List Nat} {k : Nat} (h0 : 0 < k) (hk : k ≤ l.length) : (l.drop (k - 1)).reverse = (l.drop k).reverse ++ [l.getD (k - 1) 0] := by
  have h : k - 1 < l.length := by omega
  rw [List.drop_eq_getElem_cons h, List.reverse_cons, show k - 1 + 1 = k by omega]
  simp [List.getD_eq_getElem?_getD, h]
end Go.Proofs.YtdemgbmndijkkaaGreatDoor
/- Texts of numbers: Format, the reference's Text and Format; what the statement on formats computes: true. -/
namespace Go.Vc
open Go
theorem txt_append (a b : List Nat) : txt a ++ txt b = txt (a ++ b) := by
  unfold txt
  apply ByteArray.ext
  simp [ByteArray.data_append]
theorem txt_size (a : List Nat) : (txt a).size = a.length := by unfold txt; simp [ByteArray.size]
theorem Cat.txt {a b : List Nat} {x y : ByteArray} {k : ByteArray → Prop} (hx : x = Vc.txt a) (hy : y = Vc.txt b) (hl : a.length + b.length ≤ 1000000000) (hk : k (Vc.txt (a ++ b))) : Cat x y k := by
  subst hx hy
  exact ⟨by rw [txt_size, txt_size]; omega, by rw [txt_append]; exact hk⟩
end Go.Vc
namespace Go.Proofs.YtdemgbmndijkkaaGreatDoor
open Go Go.Vc Go.Dig
/-- the text of a number, as bytes -/
def fmtL (q : Rat) : List Nat := (if sg q then [45] ++ decL (nu q) else decL (nu q)) ++ (if q.den = 1 then [] else [47] ++ decL q.den)
def specFmt (n1 : Bool) (l1 m1 : List Nat) : List Nat × Int := if okR n1 l1 m1 then (fmtL (ratOf n1 l1 m1), 0) else ([], 1)
theorem ln10' {n : Nat} (k : Nat) (h : ln 4294967296 n ≤ k) : ln 10 n ≤ 10 * k := by
  rw [ln_le_iff two_le_10]
  have h1 := (ln_le_iff two_le_B).1 h
  refine Nat.lt_of_lt_of_le h1 ?_
  rw [Nat.pow_mul]
  exact Nat.pow_le_pow_left (by decide) k
theorem ln10 {n : Nat} (h : ln 4294967296 n ≤ 64) : ln 10 n ≤ 640 := ln10' 64 h
theorem decL_len {n : Nat} (h : ln 4294967296 n ≤ 64) : (decL n).length ≤ 641 := by
  have := ln10 h
  unfold decL
  split
  · simp
  · unfold ln at this; simp; omega
end Go.Proofs.YtdemgbmndijkkaaGreatDoor
/- Contracts of package number's functions, third part: signs, opposites, absolute values; the reference's absolute value. -/
namespace Go.Dig
def absQ (q : Rat) : Rat := mkQ false (nu q) q.den
theorem sg_abs (q : Rat) : sg (absQ q) = false := by unfold absQ; rw [sg_mkQ false q.den_nz]; rfl
theorem nu_abs (q : Rat) : nu (absQ q) = nu q := by unfold absQ; rw [nu_mkQ false q.den_nz, cop, Nat.div_one]
theorem den_abs (q : Rat) : (absQ q).den = q.den := by unfold absQ; rw [den_mkQ false q.den_nz, cop, Nat.div_one]
end Go.Dig
namespace Go.Proofs.YtdemgbmndijkkaaGreatDoor
open Go Go.Vc Go.Dig

/-- what Sign hands out -/
def specSign (n1 : Bool) (l1 m1 : List Nat) : Int × Int := if okR n1 l1 m1 then (signQ (ratOf n1 l1 m1), 0) else (0, 1)
theorem Op1.neg : Op1 F.word_Frac_Opposite (fun q => -q) := fun h a b q tb h1 z1 =>
  (Opposite_ct h a b q h1 (z1.mono (by decide))).mono fun v h' _ r => ⟨a, b, r.2, by rw [r.1]; exact IsFr.neg h1⟩
theorem NNeg_ct (h : Heap) (tb : Tb h) (n1 : Bool) (a1 b1 : Sl) (l1 m1 : List Nat) (hv1 : IsVal h a1 b1 l1 m1) :
    Fn0 T F.number_Neg [.agg #[.bool n1, a1.val, b1.val]] h fun v h' => Res h' v (spec1 (fun q => -q) n1 l1 m1) := by
  refine fn0_of_codeI ok D.number_Neg rfl ?_
  conv => whnf
  repeat ((first | refine opsI.step ?_ | refine codeI.step ?_); conv => whnf)
  repeat' first
   | (show CallN _ _ _ _ _ _; first
     | (refine CallN.fn rfl (one_ct _ (by assumption) _ _ _ _ _ (by assumption) _ _ rfl Op1.neg (fun q a => (Sz.neg a).mono (by decide))) (fun v h' hl hr => ?_); obtain ⟨e1, e2, rfl, hq'⟩ := hr; conv => whnf))
   | ((first | refine opsI.step ?_ | refine codeI.step ?_); conv => whnf)
   | (intro (_ : Nat); conv => whnf)
   | (show LdN _ _ _ _ _; first
     | (refine LdN.own 0 rfl rfl ?_; conv => whnf)
     | (refine LdN.own 1 rfl rfl ?_; conv => whnf))
   | (show Sto _ _ _ _; first
     | (refine Sto.lit 0 rfl rfl rfl ?_; conv => whnf))
  exact RetN.all ⟨_, _, rfl, (by assumption)⟩
theorem Sz.abs {k : Nat} {q : Rat} (s : Sz k q) : Sz k (absQ q) := ⟨by rw [nu_abs]; exact s.num, by rw [den_abs]; exact s.den⟩
theorem IsFr.abs {h : Heap} {a b : Sl} {q : Rat} (w : IsFr h a b q) : IsFr h a b (absQ q) := ⟨by rw [nu_abs]; exact w.num, by rw [den_abs]; exact w.den⟩
theorem IsQ.abs {h : Heap} {a b : Sl} {q : Rat} (w : IsQ h a b q) : IsQ h a b (absQ q) := ⟨by rw [nu_abs]; exact w.num, by rw [den_abs]; exact w.den⟩
end Go.Proofs.YtdemgbmndijkkaaGreatDoor
/- Numbers that a value denotes: comparison, signs, rounding. -/
namespace Go.Proofs.YtdemgbmndijkkaaGreatDoor
open Go Go.Vc Go.Dig
def cmpR : Option Rat → Option Rat → Int × Int
  | some x, some y => (cmpQ x y, 0)
  | _, _ => (0, 1)
theorem cmpR_val (n1 : Bool) (l1 m1 : List Nat) (n2 : Bool) (l2 m2 : List Nat) : specCmp n1 l1 m1 n2 l2 m2 = cmpR (valOf n1 l1 m1) (valOf n2 l2 m2) := by
  unfold specCmp valOf
  by_cases h1 : okR n1 l1 m1 <;> by_cases h2 : okR n2 l2 m2 <;> simp [h1, h2, cmpR]
theorem CompareN (h : Heap) (n1 : Bool) (a1 b1 : Sl) (n2 : Bool) (a2 b2 : Sl) (x y : Option Rat) (tb : Tb h) (hx : IsNum h n1 a1 b1 x) (hy : IsNum h n2 a2 b2 y) :
    Fn0 T F.number_Compare [.agg #[.bool n1, a1.val, b1.val], .agg #[.bool n2, a2.val, b2.val]] h fun v _ => v = .tuple #[.int .i64 (cmpR x y).1, .int .i64 (cmpR x y).2] := by
  obtain ⟨l1, m1, v1, rfl⟩ := hx.ex
  obtain ⟨l2, m2, v2, rfl⟩ := hy.ex
  rw [← cmpR_val]
  exact NCompare_ct h tb n1 a1 b1 l1 m1 n2 a2 b2 l2 m2 v1 v2
def signR : Option Rat → Int × Int
  | some x => (signQ x, 0)
  | none => (0, 1)
theorem signR_val (n1 : Bool) (l1 m1 : List Nat) : specSign n1 l1 m1 = signR (valOf n1 l1 m1) := by
  unfold specSign valOf
  by_cases h1 : okR n1 l1 m1 <;> simp [h1, signR]
def gridR (up : Bool) : Option Rat → Int → Rat × Int
  | some q, p => if p < 0 ∨ 256 < p then (0, 2) else outR (gridQ q p.toNat up)
  | none, _ => (0, 1)
theorem gridR_val (up : Bool) (n1 : Bool) (l1 m1 : List Nat) (p : Int) : specGrid up n1 l1 m1 p = gridR up (valOf n1 l1 m1) p := by
  unfold specGrid valOf
  by_cases h1 : okR n1 l1 m1 <;> simp [h1, gridR]
theorem Fok.gridR (up : Bool) (x : Option Rat) (p : Int) : Fok (gridR up x p) := by
  cases x with
  | none => exact Fok.err1 1
  | some a =>
    show Fok (if p < 0 ∨ 256 < p then (0, 2) else outR (gridQ a p.toNat up))
    by_cases hb : p < 0 ∨ 256 < p
    · rw [if_pos hb]; exact Fok.err1 2
    · rw [if_neg hb]; exact Fok.out _
theorem DownN (h : Heap) (n1 : Bool) (a1 b1 : Sl) (x : Option Rat) (p : Int) (tb : Tb h) (hx : IsNum h n1 a1 b1 x) :
    Fn0 T F.number_Down [.agg #[.bool n1, a1.val, b1.val], .int .i64 p] h fun v h' => ResN h' v (gridR false x p) := by
  obtain ⟨l1, m1, v1, rfl⟩ := hx.ex
  rw [← gridR_val]
  exact (NDown_ct h tb n1 a1 b1 l1 m1 v1 p).mono fun v h' _ r => r.isn (by rw [gridR_val]; exact Fok.gridR _ _ _)
theorem UpN (h : Heap) (n1 : Bool) (a1 b1 : Sl) (x : Option Rat) (p : Int) (tb : Tb h) (hx : IsNum h n1 a1 b1 x) :
    Fn0 T F.number_Up [.agg #[.bool n1, a1.val, b1.val], .int .i64 p] h fun v h' => ResN h' v (gridR true x p) := by
  obtain ⟨l1, m1, v1, rfl⟩ := hx.ex
  rw [← gridR_val]
  exact (NUp_ct h tb n1 a1 b1 l1 m1 v1 p).mono fun v h' _ r => r.isn (by rw [gridR_val]; exact Fok.gridR _ _ _)
end Go.Proofs.YtdemgbmndijkkaaGreatDoor