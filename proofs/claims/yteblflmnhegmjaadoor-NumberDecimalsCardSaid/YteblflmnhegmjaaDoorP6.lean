/- What the statement on decimals computes: true. -/
import Derived.Test.YteblflmnhegmjaaDoorP5
import Derived.Test.YteblflmnhegmjaaDoorN3
set_option linter.unusedVariables false
set_option linter.unusedSimpArgs false
namespace Go.Dig
theorem tenpow (k : Nat) : ((10 : Int) : Rat) ^ k = mkQ false (10 ^ k) 1 := by
  unfold mkQ
  simp [Rat.mkRat_one]
theorem mk1 (n : Int) : mkRat n 1 = (n : Rat) := Rat.mkRat_one n
theorem dec_div {A B : Nat} : mkQ false A 1 / mkQ false B 1 = mkQ false A B := by
  unfold mkQ
  rw [if_neg (by decide), if_neg (by decide), mk1, mk1, Rat.mkRat_eq_div]
  rfl
theorem mkQ_opp (m n : Nat) : -mkQ false m n = mkQ true m n := by
  unfold mkQ
  rw [if_neg (by decide), if_pos rfl, Rat.neg_mkRat]
theorem dec_add {A B K : Nat} (hK : K ≠ 0) : mkQ false A 1 + mkQ false B K = mkQ false (A * K + B) K := by
  unfold mkQ
  simp only [Bool.false_eq_true, if_false]
  rw [Rat.mkRat_add_mkRat _ _ (by decide) hK, Nat.one_mul]
  congr 1
  push_cast
  omega
end Go.Dig
namespace Go.Proofs.YteblflmnhegmjaaDoor
open Go Go.Vc Go.Dig
/-- 1 to 30 decimal digits -/
def Digits (l : List Nat) : Prop := (l ≠ [] ∧ l.length ≤ 30) ∧ l.all dgt = true
instance (l : List Nat) : Decidable (Digits l) := by unfold Digits; exact inferInstance
set_option maxRecDepth 20000 in
set_option maxHeartbeats 1000000 in
theorem decimal_law_ct (h : Heap) (l : List Nat) (hb : ∀ y ∈ l, y < 256) (hl : l.length ≤ 9223372036854775807) : Fn0 T F.law01_decimal [.string (txt l)] h fun v h' => h' = h ∧ v = .bool (dec (Digits l)) := by
  have hz := txt_size l
  have f1 : (∃ k, k < l.length ∧ dgt (l.getD k 0) = false) → dec (Digits l) = false := fun ⟨k, hk, hd⟩ => dec_false fun x => by
    have := List.all_eq_true.1 x.2 (l.getD k 0) (by simp [List.getD_eq_getElem?_getD, hk])
    rw [hd] at this; cases this
  have f2 : (∀ i, i < l.length → dgt (l.getD i 0) = true) → dec (Digits l) = dec (l ≠ [] ∧ l.length ≤ 30) := fun x => by
    rw [dec_eq, dec_eq]
    congr 1
    refine propext ⟨fun y => y.1, fun y => ⟨y, List.all_eq_true.2 fun c hc => ?_⟩⟩
    obtain ⟨i, hi, rfl⟩ := List.getElem_of_mem hc
    have := x i hi
    simpa [List.getD_eq_getElem?_getD, hi] using this
  have f3 : 0 < l.length → dec (l ≠ [] ∧ l.length ≤ 30) = Vc.le ((txt l).size : Int) 30 := fun x => by
    have hne : l ≠ [] := fun e => by rw [e] at x; simp at x
    unfold dec Vc.le
    congr 1
    exact propext ⟨fun y => by omega, fun y => ⟨hne, by omega⟩⟩
  have f4 : ¬ 0 < l.length → dec (l ≠ [] ∧ l.length ≤ 30) = false := fun x => dec_false fun y => x (by have := y.1; cases l <;> simp_all)
  have hnd : ∀ {c : Nat}, ¬ (48 ≤ c ∧ c ≤ 57) → dgt c = false := fun {c} x => by
    by_cases y : dgt c = true
    · exact absurd (dgt_iff.1 y) x
    · simpa using y
  refine fn0_of_codeI ok D.law01_decimal rfl ?_
  conv => whnf
  repeat ((first | refine opsI.step ?_ | refine codeI.step ?_); conv => whnf)
  skip
  refine LoopN.of (fun r ρ h' L => ∃ k : Nat, r = l.length - k ∧ h' = h ∧ rd ρ 6 = .int .i64 k ∧ k ≤ l.length ∧ Hq (∀ i, i < k → dgt (l.getD i 0) = true)) l.length ⟨0, rfl, rfl, vi (by omega), by omega, ⟨fun i hi => by omega⟩⟩ ?_
  conv => whnf
  repeat intro _
  rename_i r h1 L1 hI
  obtain ⟨k, rfl, rfl, e6, hk, hd⟩ := hI
  conv at e6 => lhs; whnf
  subst e6
  have hs := fun (x : k < l.length) (y : 48 ≤ l.getD k 0) (z : l.getD k 0 ≤ 57) i (hi : i < k + 1) => (by
    by_cases e : i = k
    · subst e; exact dgt_iff.2 ⟨y, z⟩
    · exact hd.out i (by omega) : dgt (l.getD i 0) = true)
  have hw : k = l.length → dec (Digits l) = dec (l ≠ [] ∧ l.length ≤ 30) := fun e => f2 fun i hi => hd.out i (by omega)
  clear f2
  replace hs := Hq.mk hs
  replace f1 := Hq.mk f1
  conv => whnf
  repeat ((first | refine opsI.step ?_ | refine codeI.step ?_); conv => whnf)
  repeat' first
   | (show IdxS _ _ _; first
     | (refine IdxS.txt l rfl hb k (by omega) (by omega) ?_; conv => whnf))
   | ((first | refine opsI.step ?_ | refine codeI.step ?_); conv => whnf)
   | (show WrapN _ _ _; first
     | (refine WrapN.i64 (by omega) (by omega) ?_; conv => whnf))
   | (show cnd _ _ _; first
     | (refine cnd_lt (fun _ => ?_) (fun _ => ?_) <;> first | (exfalso; omega) | (conv => whnf)))
  all_goals first
    | exact ⟨rfl, l.length - (k + 1), by omega, k + 1, rfl, rfl, vi (by omega), by omega, ⟨hs.out (by omega) (by omega) (by omega)⟩⟩
    | (refine RetN.all ⟨rfl, ?_⟩; rw [f1.out ⟨k, by omega, hnd (by omega)⟩])
    | (refine RetN.all ⟨rfl, ?_⟩; rw [hw (by omega), f3 (by omega)])
    | (refine RetN.all ⟨rfl, ?_⟩; rw [hw (by omega), f4 (by omega)])

theorem num_ok {n : Bool} {l m : List Nat} {q : Rat} (h : some q = valOf n l m) : okR n l m ∧ ratOf n l m = q := by
  unfold valOf at h
  split at h
  · rename_i k; cases h; exact ⟨k, rfl⟩
  · cases h
theorem PowQ (h : Heap) (n1 : Bool) (a1 b1 : Sl) (q : Rat) (n : Int) (lo : 0 ≤ n) (hi : n ≤ 32) (tb : Tb h) (hx : IsNum h n1 a1 b1 (some q)) :
    Fn0 T F.number_Pow [.agg #[.bool n1, a1.val, b1.val], .int .i64 n] h fun v h' => ResN h' v (outR (powQ q n)) := by
  obtain ⟨l1, m1, v1, e1⟩ := hx.ex
  obtain ⟨k1, rfl⟩ := num_ok e1
  have e : specPow n1 l1 m1 n = outR (powQ (ratOf n1 l1 m1) n) := by
    unfold specPow
    rw [if_pos k1, if_neg (by omega), if_neg (fun x => by omega)]
  exact (NPow_ct h tb n1 a1 b1 l1 m1 v1 n (by omega) (by omega)).mono fun v h' _ r => by rw [e] at r; exact r.isn (Fok.out _)
theorem NegQ (h : Heap) (n1 : Bool) (a1 b1 : Sl) (q : Rat) (tb : Tb h) (hx : IsNum h n1 a1 b1 (some q)) :
    Fn0 T F.number_Neg [.agg #[.bool n1, a1.val, b1.val]] h fun v h' => ResN h' v (outR (-q)) := by
  obtain ⟨l1, m1, v1, e1⟩ := hx.ex
  obtain ⟨k1, rfl⟩ := num_ok e1
  have e : spec1 (fun q => -q) n1 l1 m1 = outR (-ratOf n1 l1 m1) := if_pos k1
  exact (NNeg_ct h tb n1 a1 b1 l1 m1 v1).mono fun v h' _ r => by rw [e] at r; exact r.isn (Fok.out _)
theorem parse_sep {neg : Bool} {a b : List Nat} {c : Nat} (ha : ∀ x ∈ a, dgt x = true) (hb : ∀ x ∈ b, dgt x = true) (hc : dgt c = false) : parse3 neg ((a ++ c :: b).takeWhile dgt) ((a ++ c :: b).dropWhile dgt) = parse4 neg a c b [] := by
  have h1 := tw_app a (c :: b) ha (fun d hd => by cases hd; exact hc)
  have h2 := tw_app b [] hb (fun d hd => by cases hd)
  rw [List.append_nil] at h2
  rw [h1.1, h1.2]
  show parse4 neg a c (b.takeWhile dgt) (b.dropWhile dgt) = _
  rw [h2.1, h2.2]
theorem head_dig {a t : List Nat} (ha : ∀ x ∈ a, dgt x = true) (ne : a ≠ []) : (a ++ t).head? ≠ some 45 := by
  match a, ne with
  | c :: m, _ =>
    intro h
    simp at h
    subst h
    exact absurd (ha 45 List.mem_cons_self) (by decide)
theorem parse_dig {a : List Nat} (ha : ∀ x ∈ a, dgt x = true) (ne : a ≠ []) (hl : a.length ≤ 1240) : parseL a = outR (mkQ false (natL a) 1) := by
  have h1 := tw_app a [] ha (fun d hd => by cases hd)
  have h2 := head_dig (t := []) ha ne
  rw [List.append_nil] at h1 h2
  unfold parseL
  rw [if_neg (by omega), if_neg h2, h1.1, h1.2]
  exact if_neg ne
theorem parse_pos {a b : List Nat} {c : Nat} (ha : ∀ x ∈ a, dgt x = true) (hb : ∀ x ∈ b, dgt x = true) (hc : dgt c = false) (ne : a ≠ []) (hl : a.length + b.length ≤ 1200) : parseL (a ++ c :: b) = parse4 false a c b [] := by
  unfold parseL
  rw [if_neg (by simp; omega), if_neg (head_dig ha ne), parse_sep ha hb hc]
theorem parse_neg {a b : List Nat} {c : Nat} (ha : ∀ x ∈ a, dgt x = true) (hb : ∀ x ∈ b, dgt x = true) (hc : dgt c = false) (hl : a.length + b.length ≤ 1200) : parseL (45 :: (a ++ c :: b)) = parse4 true a c b [] := by
  unfold parseL
  rw [if_neg (by simp; omega), if_pos (show (45 :: (a ++ c :: b)).head? = some 45 from rfl), List.tail_cons, parse_sep ha hb hc]
/-- what is known of the numbers of the two texts -/
structure Decs (a b : List Nat) (X Y U Q S : Rat) (p : Rat × Int) : Prop where
  pa : parseL a = (X, 0)
  pb : parseL b = (Y, 0)
  pw : outR (powQ ((10 : Int) : Rat) (b.length : Int)) = (U, 0)
  dv : divR (some Y) (some U) = (Q, 0)
  ad : opR (· + ·) (some X) (some Q) = (S, 0)
  dot : parseL ((a ++ [46]) ++ b) = (S, 0)
  neg : parseL ((([45] ++ a) ++ [46]) ++ b) = (-S, 0)
  ng : outR (-S) = (-S, 0)
  quo : divR (some X) (some Y) = p
  sl : parseL ((a ++ [47]) ++ b) = p
  fp : Fok p
theorem Decs.of {a b : List Nat} (ha : Digits a) (hb : Digits b) : ∃ X Y U Q S p, Decs a b X Y U Q S p := by
  obtain ⟨⟨na, la⟩, da⟩ := ha
  obtain ⟨⟨nb, lb⟩, db⟩ := hb
  have da := List.all_eq_true.1 da
  have db := List.all_eq_true.1 db
  have dab : ∀ x ∈ a ++ b, dgt x = true := fun x hx => (List.mem_append.1 hx).elim (da x) (db x)
  have l1 := natL_ln da
  have l2 := natL_ln db
  have l3 := natL_ln dab
  rw [List.length_append] at l3
  have l4 := ln_pow10 b.length
  have l5 := ln_one 4294967296 two_le_B
  have k0 : 10 ^ b.length ≠ 0 := Nat.ne_of_gt (Nat.pow_pos (by decide))
  have fit : ∀ neg m n, n ≠ 0 → ln 4294967296 m ≤ 64 → ln 4294967296 n ≤ 64 → fits (mkQ neg m n) := fun neg m n h0 h1 h2 => ⟨(mk_sz h0 h1 h2).num, (mk_sz h0 h1 h2).den⟩
  have ok : ∀ q, fits q → outR q = (q, 0) := fun q h => if_pos h
  have f1 := fit false (natL a) 1 (by decide) (by omega) (by omega)
  have f2 := fit false (natL b) 1 (by decide) (by omega) (by omega)
  have f3 := fit false (10 ^ b.length) 1 (by decide) (by omega) (by omega)
  have f4 := fit false (natL b) (10 ^ b.length) k0 (by omega) (by omega)
  have f5 := fit false (natL (a ++ b)) (10 ^ b.length) k0 (by omega) (by omega)
  have f6 := fit true (natL (a ++ b)) (10 ^ b.length) k0 (by omega) (by omega)
  have hS : mkQ false (natL a) 1 + mkQ false (natL b) (10 ^ b.length) = mkQ false (natL (a ++ b)) (10 ^ b.length) := by rw [dec_add k0, natL_append]
  have hM : -mkQ false (natL (a ++ b)) (10 ^ b.length) = mkQ true (natL (a ++ b)) (10 ^ b.length) := mkQ_opp _ _
  refine ⟨mkQ false (natL a) 1, mkQ false (natL b) 1, mkQ false (10 ^ b.length) 1, mkQ false (natL b) (10 ^ b.length), mkQ false (natL (a ++ b)) (10 ^ b.length), _, ?_, ?_, ?_, ?_, ?_, ?_, ?_, ?_, rfl, ?_, ?_⟩
  · rw [parse_dig da na (by omega), ok _ f1]
  · rw [parse_dig db nb (by omega), ok _ f2]
  · rw [powQ, if_neg (by omega), Int.toNat_natCast, tenpow, ok _ f3]
  · show (if nu (mkQ false (10 ^ b.length) 1) = 0 then _ else _) = _
    rw [if_neg (by rw [nu_mkQ _ (by decide), Nat.gcd_one_right, Nat.div_one]; exact k0), dec_div, ok _ f4]
  · show outR (_ + _) = _
    rw [hS, ok _ f5]
  · rw [List.append_assoc]
    show parseL (a ++ 46 :: b) = _
    rw [parse_pos da db (by decide) na (by omega)]
    unfold parse4
    rw [if_neg (by simp [na, nb]), if_pos rfl, ok _ f5]
  · rw [List.append_assoc, List.append_assoc]
    show parseL (45 :: (a ++ 46 :: b)) = _
    rw [parse_neg da db (by decide) (by omega)]
    unfold parse4
    rw [if_neg (by simp [na, nb]), if_pos rfl, hM, ok _ f6]
  · rw [hM, ok _ f6]
  · rw [List.append_assoc]
    show parseL (a ++ 47 :: b) = (if nu (mkQ false (natL b) 1) = 0 then _ else _)
    rw [parse_pos da db (by decide) na (by omega)]
    unfold parse4
    rw [if_neg (by simp [na, nb]), if_neg (by decide), if_pos rfl, nu_mkQ _ (by decide), Nat.gcd_one_right, Nat.div_one, dec_div]
  · exact Fok.divR _ _
theorem decimal_t (h : Heap) (l : List Nat) (hb : ∀ y ∈ l, y < 256) (hl : l.length ≤ 9223372036854775807) (hd : Digits l) : Fn0 T F.law01_decimal [.string (txt l)] h fun v h' => h' = h ∧ v = .bool true := by
  have := decimal_law_ct h l hb hl
  rw [dec_true hd] at this; exact this
theorem decimal_f (h : Heap) (l : List Nat) (hb : ∀ y ∈ l, y < 256) (hl : l.length ≤ 9223372036854775807) (hd : ¬ Digits l) : Fn0 T F.law01_decimal [.string (txt l)] h fun v h' => h' = h ∧ v = .bool false := by
  have := decimal_law_ct h l hb hl
  rw [dec_false hd] at this; exact this
set_option maxRecDepth 20000 in
set_option maxHeartbeats 4000000 in
theorem Decimals_law (h : Heap) (tb : Tb h) (s1 : ByteArray) (hs1 : s1.size ≤ maxLen) (s2 : ByteArray) (hs2 : s2.size ≤ maxLen) :
    Fn0 T F.law01_NumberDecimals [.string s1, .string s2] h fun v _ => v = .bool true := by
  obtain ⟨a, rfl, ha⟩ : ∃ L, s1 = txt L ∧ ∀ y ∈ L, y < 256 := ⟨rl s1, (txt_rl s1).symm, rl_lt s1⟩
  obtain ⟨b, rfl, hb⟩ : ∃ L, s2 = txt L ∧ ∀ y ∈ L, y < 256 := ⟨rl s2, (txt_rl s2).symm, rl_lt s2⟩
  have za := txt_size a
  have zb := txt_size b
  rw [za] at hs1
  rw [zb] at hs2
  replace hs1 : a.length ≤ 9223372036854775807 := hs1
  replace hs2 : b.length ≤ 9223372036854775807 := hs2
  by_cases da : Digits a
  · by_cases db : Digits b
    · obtain ⟨X, Y, U, Q, S, p, k⟩ := Decs.of da db
      have la := da.1.2
      have lb := db.1.2
      have c1 := fun h => decimal_t h a ha hs1 da
      have c2 := fun h => decimal_t h b hb hs2 db
      have x1 := k.pa
      have x2 := k.pb
      have x3 := k.pw
      have x4 := k.dv
      have x5 := k.ad
      have x6 := k.dot
      have x7 := k.neg
      have x8 := k.ng
      have x9 := k.quo
      have x10 := k.sl
      have kr := k.fp.rok
      have g6 : ∀ y ∈ (a ++ [46]) ++ b, y < 256 := fun y hy => by simp at hy; rcases hy with hy | rfl | hy; exact ha y hy; decide; exact hb y hy
      have g7 : ∀ y ∈ (([45] ++ a) ++ [46]) ++ b, y < 256 := fun y hy => by simp at hy; rcases hy with rfl | hy | rfl | hy; decide; exact ha y hy; decide; exact hb y hy
      have g10 : ∀ y ∈ (a ++ [47]) ++ b, y < 256 := fun y hy => by simp at hy; rcases hy with hy | rfl | hy; exact ha y hy; decide; exact hb y hy
      clear k da db
      have zz : ((txt b).size : Int) = (b.length : Int) := by omega
      have q3 : ∀ (h : Heap) (n1 : Bool) (a1 b1 : Sl), Tb h → IsNum h n1 a1 b1 (some ((10 : Int) : Rat)) → Fn0 T F.number_Pow [.agg #[.bool n1, a1.val, b1.val], .int .i64 ((txt b).size : Int)] h fun v h' => ResN h' v (U, 0) := fun h n1 a1 b1 t i => by
        have := PowQ h n1 a1 b1 ((10 : Int) : Rat) (b.length : Int) (by omega) (by omega) t i
        rw [x3, ← zz] at this; exact this
      clear x3
      have q0 : ∀ (h : Heap), Fn0 T F.number_FromInt [.int .i64 10] h fun v h' => ∃ a b : Sl, v = .agg #[.bool (sg ((10 : Int) : Rat)), a.val, b.val] ∧ IsNum h' (sg ((10 : Int) : Rat)) a b (some ((10 : Int) : Rat)) := fun h =>
        (NFromInt_ct h 10 (by decide) (by decide)).mono fun v h' _ ⟨a, b, e, i⟩ => ⟨a, b, e, i.isnum (fits_int 10 (by decide) (by decide))⟩
      obtain ⟨t10, ht10⟩ : ∃ t, t = ((10 : Int) : Rat) := ⟨_, rfl⟩
      rw [← ht10] at q0 q3
      clear ht10
      refine fn0_of_codeI ok D.law01_NumberDecimals rfl ?_
      repeat' first
       | (show CallN _ _ _ _ _ _; first
         | (refine CallN.quiet rfl (c1 _) ?_; conv => whnf)
         | (refine CallN.quiet rfl (c2 _) ?_; conv => whnf)
         | (refine CallN.fn rfl (ParseN _ a (by assumption) ha) (fun v h' hl hr => ?_); rw [x1] at hr; obtain ⟨e1, f1, rfl, hq1, hn1⟩ := hr; conv => whnf)
         | (refine CallN.fn rfl (ParseN _ b (by (iterate 30 (try first | assumption | refine Tb.mono ?_ (by assumption))); first | done | assumption) hb) (fun v h' hl hr => ?_); rw [x2] at hr; obtain ⟨e1, f1, rfl, hq1, hn1⟩ := hr; conv => whnf)
         | (refine CallN.fn rfl (q0 _) (fun v h' hl hr => ?_); obtain ⟨e1, f1, rfl, hn1⟩ := hr; conv => whnf)
         | (refine CallN.fn rfl (q3 _ _ _ _ (by (iterate 30 (try first | assumption | refine Tb.mono ?_ (by assumption))); first | done | assumption) (by assumption)) (fun v h' hl hr => ?_); obtain ⟨e1, f1, rfl, hq1, hn1⟩ := hr; conv => whnf)
         | (refine CallN.fn rfl (DivN _ _ _ _ _ _ _ (some Y) (some U) (by (iterate 30 (try first | assumption | refine Tb.mono ?_ (by assumption))); first | done | assumption) (by (iterate 30 (try first | assumption | refine IsNum.mono ?_ (by assumption))); first | done | assumption) (by assumption)) (fun v h' hl hr => ?_); rw [x4] at hr; obtain ⟨e1, f1, rfl, hq1, hn1⟩ := hr; conv => whnf)
         | (refine CallN.fn rfl (AddN _ _ _ _ _ _ _ (some X) (some Q) (by (iterate 30 (try first | assumption | refine Tb.mono ?_ (by assumption))); first | done | assumption) (by (iterate 30 (try first | assumption | refine IsNum.mono ?_ (by assumption))); first | done | assumption) (by assumption)) (fun v h' hl hr => ?_); rw [x5] at hr; obtain ⟨e1, f1, rfl, hq1, hn1⟩ := hr; conv => whnf)
         | (refine CallN.fn rfl (ParseN _ ((a ++ [46]) ++ b) (by (iterate 30 (try first | assumption | refine Tb.mono ?_ (by assumption))); first | done | assumption) g6) (fun v h' hl hr => ?_); rw [x6] at hr; obtain ⟨e1, f1, rfl, hq1, hn1⟩ := hr; conv => whnf)
         | (refine CallN.fn rfl (ParseN _ ((([45] ++ a) ++ [46]) ++ b) (by (iterate 30 (try first | assumption | refine Tb.mono ?_ (by assumption))); first | done | assumption) g7) (fun v h' hl hr => ?_); rw [x7] at hr; obtain ⟨e1, f1, rfl, hq1, hn1⟩ := hr; conv => whnf)
         | (refine CallN.fn rfl (ParseN _ ((a ++ [47]) ++ b) (by (iterate 30 (try first | assumption | refine Tb.mono ?_ (by assumption))); first | done | assumption) g10) (fun v h' hl hr => ?_); rw [x10] at hr; obtain ⟨e1, f1, rfl, hq1, hn1⟩ := hr; conv => whnf)
         | (refine CallN.fn rfl (NegQ _ _ _ _ S (by (iterate 30 (try first | assumption | refine Tb.mono ?_ (by assumption))); first | done | assumption) (by (iterate 30 (try first | assumption | refine IsNum.mono ?_ (by assumption))); first | done | assumption)) (fun v h' hl hr => ?_); rw [x8] at hr; obtain ⟨e1, f1, rfl, hq1, hn1⟩ := hr; conv => whnf)
         | (refine CallN.fn rfl (EqualN _ _ _ _ _ _ _ (some S) (some S) S rfl rfl (by (iterate 30 (try first | assumption | refine IsNum.mono ?_ (by assumption))); first | done | assumption) (by (iterate 30 (try first | assumption | refine IsNum.mono ?_ (by assumption))); first | done | assumption)) (fun v h' hl hr => ?_); obtain rfl := hr; conv => whnf)
         | (refine CallN.fn rfl (EqualN _ _ _ _ _ _ _ (some (-S)) (some (-S)) (-S) rfl rfl (by (iterate 30 (try first | assumption | refine IsNum.mono ?_ (by assumption))); first | done | assumption) (by (iterate 30 (try first | assumption | refine IsNum.mono ?_ (by assumption))); first | done | assumption)) (fun v h' hl hr => ?_); obtain rfl := hr; conv => whnf)
         | (refine CallN.fn rfl (DivN _ _ _ _ _ _ _ (some X) (some Y) (by (iterate 30 (try first | assumption | refine Tb.mono ?_ (by assumption))); first | done | assumption) (by (iterate 30 (try first | assumption | refine IsNum.mono ?_ (by assumption))); first | done | assumption) (by (iterate 30 (try first | assumption | refine IsNum.mono ?_ (by assumption))); first | done | assumption)) (fun v h' hl hr => ?_); rw [x9] at hr; obtain ⟨e1, f1, rfl, hq1, hn1⟩ := hr; conv => whnf)
         | (refine CallN.fn rfl (Is_ct _ _ _ _ _ p.1 p.2 (by assumption) (by (iterate 30 (try first | assumption | refine IsRat.mono ?_ (by assumption))); first | done | assumption) kr.sz kr.err) (fun v h' hl hr => ?_); obtain rfl := hr; conv => whnf)
         | (refine CallN.fn rfl (awake_ct _ (by (iterate 30 (try first | assumption | refine Tb.mono ?_ (by assumption))); first | done | assumption)) (fun v h' hl hr => ?_); obtain rfl := hr; conv => whnf))
       | (show Cat _ _ _; first
         | (refine Cat.txt (b := [46]) rfl rfl (by simp; omega) ?_; conv => whnf)
         | (refine Cat.txt (b := [47]) rfl rfl (by simp; omega) ?_; conv => whnf)
         | (refine Cat.txt (a := [45]) rfl rfl (by simp; omega) ?_; conv => whnf)
         | (refine Cat.txt (b := b) rfl rfl (by simp; omega) ?_; conv => whnf))
       | ((first | refine opsI.step ?_ | refine codeI.step ?_); conv => whnf)
       | (intro (_ : Nat); conv => whnf)
       | (show cnd _ _ _; first
         | (refine cnd_eq (fun _ => ?_) (fun _ => ?_) <;> first | (exfalso; omega) | (conv => whnf))
         | (refine cnd_not ?_))
       | (show LdN _ _ _ _ _; first
         | (refine LdN.own 0 rfl rfl ?_; conv => whnf)
         | (refine LdN.own 1 rfl rfl ?_; conv => whnf)
         | (refine LdN.own 2 rfl rfl ?_; conv => whnf)
         | (refine LdN.own 3 rfl rfl ?_; conv => whnf)
         | (refine LdN.own 6 rfl rfl ?_; conv => whnf)
         | (refine LdN.own 7 rfl rfl ?_; conv => whnf))
       | (show Sto _ _ _ _; first
         | (refine Sto.lit 0 rfl rfl rfl ?_; conv => whnf))
      all_goals exact RetN.all rfl
    · have c1 := fun h => decimal_t h a ha hs1 da
      have c2 := fun h => decimal_f h b hb hs2 db
      refine fn0_of_codeI ok D.law01_NumberDecimals rfl ?_
      repeat' first
       | (show CallN _ _ _ _ _ _; first
         | (refine CallN.quiet rfl (c1 _) ?_; conv => whnf)
         | (refine CallN.quiet rfl (c2 _) ?_; conv => whnf)
         | (refine CallN.fn rfl (awake_ct _ (by assumption)) (fun v h' hl hr => ?_); obtain rfl := hr; conv => whnf))
       | ((first | refine opsI.step ?_ | refine codeI.step ?_); conv => whnf)
      all_goals exact RetN.all rfl
  · have c1 := fun h => decimal_f h a ha hs1 da
    refine fn0_of_codeI ok D.law01_NumberDecimals rfl ?_
    repeat' first
     | (show CallN _ _ _ _ _ _; first
       | (refine CallN.quiet rfl (c1 _) ?_; conv => whnf)
       | (refine CallN.fn rfl (awake_ct _ (by assumption)) (fun v h' hl hr => ?_); obtain rfl := hr; conv => whnf))
     | ((first | refine opsI.step ?_ | refine codeI.step ?_); conv => whnf)
    all_goals exact RetN.all rfl
end Go.Proofs.YteblflmnhegmjaaDoor
