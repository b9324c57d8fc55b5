/- What Parse makes of a text. -/
import Derived.Test.YteblflmnhegmjaaDoorP2
set_option linter.unusedVariables false
set_option linter.unusedSimpArgs false
namespace Go.Vc
open Go
theorem IdxS.at {s : ByteArray} {i : Int} {k : Int → Prop} (l : List Nat) (c : Nat) (hs : s = Vc.txt l) (hb : ∀ y ∈ l, y < 256) (j : Nat) (hi : i = j) (hc : l[j]? = some c) (hk : k (c : Int)) : IdxS s i k := by
  obtain ⟨hj, e⟩ := List.getElem?_eq_some_iff.1 hc
  refine IdxS.txt l hs hb j hi hj ?_
  rw [List.getD_eq_getElem?_getD, hc]; exact hk
end Go.Vc
namespace Go.Proofs.YteblflmnhegmjaaDoor
open Go Go.Vc Go.Dig
/-- behind the sign and the first digits -/
def parse4 (neg : Bool) (hd : List Nat) (c : Nat) (tl rest : List Nat) : Rat × Int :=
  if hd = [] ∨ tl = [] ∨ rest ≠ [] ∨ ¬ (c = 0 ∨ c = 46 ∨ c = 47) then (0, 3)
  else if c = 46 then outR (mkQ neg (natL (hd ++ tl)) (10 ^ tl.length))
  else if c = 47 then (if natL tl = 0 then (0, 10) else outR (mkQ neg (natL hd) (natL tl)))
  else outR (mkQ neg (natL hd) 1)
def parse3 (neg : Bool) (hd : List Nat) : List Nat → Rat × Int
  | [] => if hd = [] then (0, 3) else outR (mkQ neg (natL hd) 1)
  | c :: r => parse4 neg hd c (r.takeWhile dgt) (r.dropWhile dgt)
/-- what Parse hands out -/
def parseL (l : List Nat) : Rat × Int :=
  if 1240 < l.length then (0, 4)
  else if l.head? = some 45 then parse3 true (l.tail.takeWhile dgt) (l.tail.dropWhile dgt)
  else parse3 false (l.takeWhile dgt) (l.dropWhile dgt)
/-- the end, by the parts that the program has found -/
structure Pend (neg : Bool) (n : Nat) (hd tl rest : List Nat) (c : Nat) (res : Rat × Int) : Prop where
  e1 : hd = [] → res = (0, 3)
  e2 : rest ≠ [] → res = (0, 3)
  e3 : tl = [] → hd.length + (if neg then 1 else 0) ≠ n → res = (0, 3)
  e4 : c ≠ 0 → c ≠ 46 → c ≠ 47 → res = (0, 3)
  r1 : hd ≠ [] → rest = [] → (tl = [] → hd.length + (if neg then 1 else 0) = n) → c = 46 → res = outR (mkQ neg (natL (hd ++ tl)) (10 ^ tl.length))
  r2 : hd ≠ [] → rest = [] → (tl = [] → hd.length + (if neg then 1 else 0) = n) → c = 47 → natL tl = 0 → res = (0, 10)
  r3 : hd ≠ [] → rest = [] → (tl = [] → hd.length + (if neg then 1 else 0) = n) → c = 47 → natL tl ≠ 0 → res = outR (mkQ neg (natL hd) (natL tl))
  r4 : hd ≠ [] → rest = [] → (tl = [] → hd.length + (if neg then 1 else 0) = n) → c = 0 → res = outR (mkQ neg (natL hd) 1)
  dh : ∀ x ∈ hd, dgt x = true
  dt : ∀ x ∈ tl, dgt x = true
  le : hd.length + (if neg then 1 else 0) + tl.length ≤ n
theorem Pend.nil {neg : Bool} {n : Nat} {hd : List Nat} (hh : ∀ x ∈ hd, dgt x = true) (hn : hd.length + (if neg then 1 else 0) = n) : Pend neg n hd [] [] 0 (parse3 neg hd []) where
  e1 := fun h => if_pos h
  e2 := fun h => (h rfl).elim
  e3 := fun _ h => (h hn).elim
  e4 := fun h => (h rfl).elim
  r1 := fun _ _ _ h => by cases h
  r2 := fun _ _ _ h => by cases h
  r3 := fun _ _ _ h => by cases h
  r4 := fun h _ _ _ => if_neg h
  dh := hh
  dt := fun x hx => by cases hx
  le := by simp; omega
theorem Pend.cons {neg : Bool} {n c : Nat} {hd tl rest : List Nat} (hh : ∀ x ∈ hd, dgt x = true) (ht : ∀ x ∈ tl, dgt x = true) (hn : hd.length + (if neg then 1 else 0) + tl.length < n) : Pend neg n hd tl rest (if tl = [] then 0 else c) (parse4 neg hd c tl rest) where
  e1 := fun h => if_pos (.inl h)
  e2 := fun h => if_pos (.inr (.inr (.inl h)))
  e3 := fun h _ => if_pos (.inr (.inl h))
  e4 := fun a b d => by
    by_cases h : tl = []
    · rw [if_pos h] at a; exact (a rfl).elim
    · rw [if_neg h] at a b d; exact if_pos (.inr (.inr (.inr (by omega))))
  r1 := fun a b d e => by
    by_cases h : tl = []
    · rw [if_pos h] at e; cases e
    · rw [if_neg h] at e; unfold parse4; rw [if_neg (by simp [a, b, h, e]), if_pos e]
  r2 := fun a b d e f => by
    by_cases h : tl = []
    · rw [if_pos h] at e; cases e
    · rw [if_neg h] at e; unfold parse4; rw [if_neg (by simp [a, b, h, e]), if_neg (by omega), if_pos e, if_pos f]
  r3 := fun a b d e f => by
    by_cases h : tl = []
    · rw [if_pos h] at e; cases e
    · rw [if_neg h] at e; unfold parse4; rw [if_neg (by simp [a, b, h, e]), if_neg (by omega), if_pos e, if_neg f]
  r4 := fun a b d e => by
    by_cases h : tl = []
    · have := d h
      rw [h] at hn; simp at hn; omega
    · rw [if_neg h] at e; unfold parse4; rw [if_neg (by simp [a, b, h, e]), if_neg (by omega), if_neg (by omega)]
  dh := hh
  dt := ht
  le := by omega
theorem ln_pow10 (k : Nat) : ln 4294967296 (10 ^ k) ≤ k + 1 := by
  have := ln_pow two_le_B 10 k
  have h10 : ln 4294967296 10 ≤ 1 := by rw [ln_le_iff two_le_B]; decide
  have := Nat.mul_le_mul_left k h10
  omega
theorem mk_sz {neg : Bool} {m n k : Nat} (hn : n ≠ 0) (h1 : ln 4294967296 m ≤ k) (h2 : ln 4294967296 n ≤ k) : Sz k (mkQ neg m n) :=
  ⟨Nat.le_trans (ln_mono two_le_B (mkQ_le neg hn).1) h1, Nat.le_trans (ln_mono two_le_B (mkQ_le neg hn).2) h2⟩
theorem takeWhile_len (l : List Nat) : (l.takeWhile dgt).length + (l.dropWhile dgt).length = l.length := by
  rw [← List.length_append, List.takeWhile_append_dropWhile]
set_option maxRecDepth 20000 in
set_option maxHeartbeats 2000000 in
theorem Parse_ct (h : Heap) (tb : Tb h) (l : List Nat) (hb : ∀ y ∈ l, y < 256) : Fn0 T F.number_Parse [.string (txt l)] h fun v h' => Res h' v (parseL l) := by
  have hz := txt_size l
  have e4 : 1240 < l.length → parseL l = (0, 4) := fun x => if_pos x
  have hsplit : ¬ 1240 < l.length → ∃ neg r0, parseL l = parse3 neg (r0.takeWhile dgt) (r0.dropWhile dgt) ∧ r0.length + (if neg then 1 else 0) = l.length ∧ ((l = [] ∧ neg = false ∧ r0 = []) ∨ (∃ m, l = 45 :: m ∧ neg = true ∧ r0 = m) ∨ (∃ c m, l = c :: m ∧ c ≠ 45 ∧ neg = false ∧ r0 = c :: m)) := fun x => by
    unfold parseL
    rw [if_neg x]
    match l with
    | [] => exact ⟨false, [], by simp, rfl, .inl ⟨rfl, rfl, rfl⟩⟩
    | c :: m =>
      by_cases hc : c = 45
      · subst hc; exact ⟨true, m, by simp, by simp, .inr (.inl ⟨m, rfl, rfl, rfl⟩)⟩
      · exact ⟨false, c :: m, by simp [hc], by simp, .inr (.inr ⟨c, m, rfl, hc, rfl, rfl⟩)⟩
  obtain ⟨res, hres⟩ : ∃ r, r = parseL l := ⟨_, rfl⟩
  rw [← hres] at e4 hsplit
  rw [← hres]
  by_cases hlong : 1240 < l.length
  · refine fn0_of_codeI ok D.number_Parse rfl ?_
    conv => whnf
    repeat ((first | refine opsI.step ?_ | refine codeI.step ?_); conv => whnf)
    repeat' first
     | ((first | refine opsI.step ?_ | refine codeI.step ?_); conv => whnf)
     | (intro (_ : Nat); conv => whnf)
     | (show cnd _ _ _; first
       | (refine cnd_lt (fun _ => ?_) (fun _ => ?_) <;> first | (exfalso; omega) | (conv => whnf)))
     | (show LdN _ _ _ _ _; first
       | (refine LdN.own 0 rfl rfl ?_; conv => whnf))
     | (show Sto _ _ _ _; first
       | (refine Sto.lit 0 rfl rfl rfl ?_; conv => whnf))
    rw [e4 hlong]; exact RetN.all (Res.err _ _)
  obtain ⟨neg, r0, hp, hlen, hcase⟩ := hsplit hlong
  clear hsplit e4 hres
  have hr8 : ∀ y ∈ r0, y < 256 := fun y hy => by
    rcases hcase with ⟨-, -, rfl⟩ | ⟨m, rfl, -, rfl⟩ | ⟨c, m, rfl, -, -, rfl⟩
    · cases hy
    · exact hb y (List.mem_cons_of_mem _ hy)
    · exact hb y hy
  replace hp := Hq.mk hp
  refine fn0_of_codeI ok D.number_Parse rfl ?_
  repeat' first
   | (refine codeI.seqN (a := .region 4 _ _) ?_)
   | ((first | refine opsI.step ?_ | refine codeI.step ?_); conv => whnf)
   | (intro (_ : Nat); conv => whnf)
   | (show cnd _ _ _; first
     | (refine cnd_lt (fun _ => ?_) (fun _ => ?_) <;> first | (exfalso; omega) | (conv => whnf)))
  rename_i b2 _
  refine SeqN.cut (fun ρ h' L => rd ρ 5 = .bool neg ∧ h' = h ∧ L = [(b2, .cells [.bool false, .slice none 0 0, .slice none 0 0].toArray 24 (0, 0))]) ?_ ?_
  · rcases hcase with ⟨rfl, rfl, rfl⟩ | ⟨m, rfl, rfl, rfl⟩ | ⟨c, m, rfl, hc, rfl, rfl⟩
    · have hlc : ([] : List Nat).length = 0 := rfl
      conv => whnf
      repeat ((first | refine opsI.step ?_ | refine codeI.step ?_); conv => whnf)
      repeat' first
       | ((first | refine opsI.step ?_ | refine codeI.step ?_); conv => whnf)
       | (show cnd _ _ _; first
         | (refine cnd_lt (fun _ => ?_) (fun _ => ?_) <;> first | (exfalso; omega) | (conv => whnf)))
      all_goals exact ⟨rfl, rfl, rfl, rfl⟩
    · have hlc : (45 :: r0).length = r0.length + 1 := rfl
      conv => whnf
      repeat ((first | refine opsI.step ?_ | refine codeI.step ?_); conv => whnf)
      repeat' first
       | (show IdxS _ _ _; first
         | (refine IdxS.at (45 :: r0) 45 rfl hb 0 (by omega) rfl ?_; conv => whnf))
       | ((first | refine opsI.step ?_ | refine codeI.step ?_); conv => whnf)
       | (show cnd _ _ _; first
         | (refine cnd_lt (fun _ => ?_) (fun _ => ?_) <;> first | (exfalso; omega) | (conv => whnf)))
      all_goals exact ⟨rfl, congrArg Value.bool (show Vc.eq ((45 : Nat) : Int) 45 = true by unfold Vc.eq; simp), rfl, rfl⟩
    · have hlc : (c :: m).length = m.length + 1 := rfl
      conv => whnf
      repeat ((first | refine opsI.step ?_ | refine codeI.step ?_); conv => whnf)
      repeat' first
       | (show IdxS _ _ _; first
         | (refine IdxS.at (c :: m) c rfl hb 0 (by omega) rfl ?_; conv => whnf))
       | ((first | refine opsI.step ?_ | refine codeI.step ?_); conv => whnf)
       | (show cnd _ _ _; first
         | (refine cnd_lt (fun _ => ?_) (fun _ => ?_) <;> first | (exfalso; omega) | (conv => whnf)))
      all_goals exact ⟨rfl, congrArg Value.bool (show Vc.eq ((c : Nat) : Int) 45 = false by unfold Vc.eq; simp; omega), rfl, rfl⟩
  · conv => whnf
    repeat intro _
    rename_i h1 L1 hJ
    obtain ⟨e5, rfl, rfl⟩ := hJ
    conv at e5 => lhs; whnf
    subst e5
    conv => whnf
    repeat ((first | refine opsI.step ?_ | refine codeI.step ?_); conv => whnf)
    refine SeqN.cut (fun ρ h' L => rd ρ 4 = .string (txt r0) ∧ h' = h1 ∧ L = [(b2, .cells [.bool false, .slice none 0 0, .slice none 0 0].toArray 24 (0, 0))]) ?_ ?_
    · rcases hcase with ⟨rfl, rfl, rfl⟩ | ⟨m, rfl, rfl, rfl⟩ | ⟨c, m, rfl, hc, rfl, rfl⟩
      · conv => whnf
        repeat ((first | refine opsI.step ?_ | refine codeI.step ?_); conv => whnf)
        skip
        all_goals exact ⟨rfl, rfl, rfl, rfl⟩
      · have hlc : (45 :: r0).length = r0.length + 1 := rfl
        conv => whnf
        repeat ((first | refine opsI.step ?_ | refine codeI.step ?_); conv => whnf)
        repeat' first
         | (show Cut _ _ _ _; first
           | (refine Cut.txt (45 :: r0) 1 (45 :: r0).length (by omega) (by omega) rfl (by omega) (by omega) ?_; rw [txt_sub, List.take_length]; conv => whnf))
         | ((first | refine opsI.step ?_ | refine codeI.step ?_); conv => whnf)
        all_goals exact ⟨rfl, rfl, rfl, rfl⟩
      · conv => whnf
        repeat ((first | refine opsI.step ?_ | refine codeI.step ?_); conv => whnf)
        skip
        all_goals exact ⟨rfl, rfl, rfl, rfl⟩
    · conv => whnf
      repeat intro _
      rename_i h2 L2 hJ
      obtain ⟨e4, rfl, rfl⟩ := hJ
      conv at e4 => lhs; whnf
      subst e4
      have hr0l : r0.length ≤ l.length := by omega
      obtain ⟨hd, hhd⟩ : ∃ x, x = r0.takeWhile dgt := ⟨_, rfl⟩
      obtain ⟨r1, hr1⟩ : ∃ x, x = r0.dropWhile dgt := ⟨_, rfl⟩
      have hsum := takeWhile_len r0
      have hhd2 : ∀ x ∈ hd, dgt x = true := by rw [hhd]; exact run_all
      have hr18 : ∀ y ∈ r1, y < 256 := fun y hy => hr8 y (by rw [hr1] at hy; exact (List.dropWhile_sublist _).subset hy)
      have hrun := run_ct h2 r0 hr8 (by omega)
      rw [← hhd, ← hr1] at hsum hrun
      replace hp := hp.out
      rw [← hhd, ← hr1] at hp
      clear hhd hr1 hcase
      repeat' first
       | (show CallN _ _ _ _ _ _; first
         | (refine CallN.quiet rfl hrun ?_; conv => whnf))
       | ((first | refine opsI.step ?_ | refine codeI.step ?_); conv => whnf)
      refine SeqN.cut (fun ρ h' L => ∃ (tl rest : List Nat) (c : Nat), rd ρ 4 = .string (txt rest) ∧ rd ρ 7 = .string (txt tl) ∧ rd ρ 8 = .int .u8 c ∧ h' = h2 ∧ L = [(b2, .cells [.bool false, .slice none 0 0, .slice none 0 0].toArray 24 (0, 0))] ∧ Pend neg l.length hd tl rest c res) ?_ ?_
      · cases r1 with
        | nil =>
          have hlc : ([] : List Nat).length = 0 := rfl
          have hzz := txt_size ([] : List Nat)
          have hpe : Pend neg l.length hd [] [] 0 res := by rw [hp]; exact Pend.nil hhd2 (by omega)
          conv => whnf
          repeat ((first | refine opsI.step ?_ | refine codeI.step ?_); conv => whnf)
          repeat' first
           | ((first | refine opsI.step ?_ | refine codeI.step ?_); conv => whnf)
           | (show cnd _ _ _; first
             | (refine cnd_lt (fun _ => ?_) (fun _ => ?_) <;> first | (exfalso; omega) | (conv => whnf)))
          all_goals exact ⟨rfl, [], [], 0, rfl, rfl, vi rfl, rfl, rfl, hpe⟩
        | cons c r2 =>
          have hlc : (c :: r2).length = r2.length + 1 := rfl
          have hzz := txt_size (c :: r2)
          have hs2 := takeWhile_len r2
          have hpe : Pend neg l.length hd (r2.takeWhile dgt) (r2.dropWhile dgt) (if r2.takeWhile dgt = [] then 0 else c) res := by rw [hp]; exact Pend.cons hhd2 run_all (by omega)
          have hrun2 := run_ct h2 r2 (fun y hy => hr18 y (List.mem_cons_of_mem _ hy)) (by omega)
          obtain ⟨tl, htl⟩ : ∃ x, x = r2.takeWhile dgt := ⟨_, rfl⟩
          obtain ⟨rest, hrest⟩ : ∃ x, x = r2.dropWhile dgt := ⟨_, rfl⟩
          rw [← htl, ← hrest] at hpe hrun2
          clear htl hrest hp
          conv => whnf
          repeat ((first | refine opsI.step ?_ | refine codeI.step ?_); conv => whnf)
          repeat' first
           | (show IdxS _ _ _; first
             | (refine IdxS.at (c :: r2) c rfl hr18 0 (by omega) rfl ?_; conv => whnf))
           | (show Cut _ _ _ _; first
             | (refine Cut.txt (c :: r2) 1 (c :: r2).length (by omega) (by omega) rfl (by omega) (by omega) ?_; rw [txt_sub, List.take_length]; conv => whnf))
           | (show CallN _ _ _ _ _ _; first
             | (refine CallN.quiet rfl hrun2 ?_; conv => whnf))
           | (show cnd _ _ _; first
             | (refine cnd_nil tl rfl rfl (fun _ => ?_) (fun _ => ?_) <;> (conv => whnf))
             | (refine cnd_lt (fun _ => ?_) (fun _ => ?_) <;> first | (exfalso; omega) | (conv => whnf)))
           | ((first | refine opsI.step ?_ | refine codeI.step ?_); conv => whnf)
          all_goals first
            | (rw [if_pos (by assumption)] at hpe; exact ⟨rfl, tl, rest, 0, rfl, rfl, vi rfl, rfl, rfl, hpe⟩)
            | (rw [if_neg (by assumption)] at hpe; exact ⟨rfl, tl, rest, c, rfl, rfl, vi rfl, rfl, rfl, hpe⟩)
      · conv => whnf
        repeat intro _
        rename_i h3 L3 hJ
        obtain ⟨tl, rest, c, e4, e7, e8, rfl, rfl, hpe⟩ := hJ
        conv at e4 => lhs; whnf
        subst e4
        conv at e7 => lhs; whnf
        subst e7
        conv at e8 => lhs; whnf
        subst e8
        clear hrun hp hsum hr18 hr8 hhd2 hlen hr0l
        have z1 := txt_size hd
        have z2 := txt_size tl
        have hle := hpe.le
        have t1 := hpe.dh
        have t2 := hpe.dt
        have t3 : ∀ x ∈ hd ++ tl, dgt x = true := fun x hx => (List.mem_append.1 hx).elim (t1 x) (t2 x)
        have hla : (hd ++ tl).length = hd.length + tl.length := List.length_append
        have c1 := fun h => natural_ct h (hd ++ tl) t3 (by omega)
        have c2 := fun h => natural_ct h tl t2 (by omega)
        have c3 := fun h => natural_ct h hd t1 (by omega)
        have e1 := hpe.e1
        have e2 := hpe.e2
        have e3 := hpe.e3
        have e4 := hpe.e4
        have q1 := hpe.r1
        have q2 := hpe.r2
        have q3 := hpe.r3
        have q4 := hpe.r4
        clear hpe
        have b1 := natL_ln t3
        have b2' := natL_ln t2
        have b3 := natL_ln t1
        have b4 := ln_pow10 tl.length
        have b5 : tl.length * ln 4294967296 10 ≤ tl.length * 1 := Nat.mul_le_mul_left _ ((ln_le_iff two_le_B).2 (by decide))
        have b6 := ln_one 4294967296 two_le_B
        have n0 : 10 ^ tl.length ≠ 0 := Nat.ne_of_gt (Nat.pow_pos (by decide))
        have c4 := fun h a i => Pow_ct h a 10 tl.length i (by omega) (Nat.le_trans ((ln_le_iff two_le_B (k := 1)).2 (by decide)) (by decide)) (by omega)
        rw [← z2] at c4
        rw [z2] at c4
        obtain ⟨A, hA⟩ : ∃ x, x = natL (hd ++ tl) := ⟨_, rfl⟩
        obtain ⟨B, hB⟩ : ∃ x, x = natL hd := ⟨_, rfl⟩
        obtain ⟨E, hE⟩ : ∃ x, x = natL tl := ⟨_, rfl⟩
        obtain ⟨P, hP⟩ : ∃ x, x = 10 ^ tl.length := ⟨_, rfl⟩
        simp only [← hA, ← hB, ← hE, ← hP] at *
        clear hA hB hE hP b5
        have s1 : Sz 1073741824 (mkQ neg A P) := mk_sz n0 (by omega) (by omega)
        have s2 : E ≠ 0 → Sz 1073741824 (mkQ neg B E) := fun x => mk_sz x (by omega) (by omega)
        have s3 : Sz 1073741824 (mkQ neg B 1) := mk_sz (by decide) (by omega) (by omega)
        have z3 : ((txt tl).size : Int) = (tl.length : Int) := by omega
        cases neg
        all_goals
          simp only [if_true, if_false, Bool.false_eq_true] at e3 q1 q2 q3 q4 hle
        all_goals (repeat' first
           | (show cnd _ _ _; first
             | (refine cnd_nil hd rfl rfl (fun _ => ?_) (fun _ => ?_) <;> (conv => whnf))
             | (refine cnd_nil rest rfl rfl (fun _ => ?_) (fun _ => ?_) <;> (conv => whnf))
             | (refine cnd_nil tl rfl rfl (fun _ => ?_) (fun _ => ?_) <;> (conv => whnf))
             | (refine cnd_lt (fun _ => ?_) (fun _ => ?_) <;> first | (exfalso; omega) | (conv => whnf))
             | (refine cnd_eq (fun _ => ?_) (fun _ => ?_) <;> first | (exfalso; omega) | (conv => whnf))
             | (refine cnd_not ?_)
             | (refine cnd_dec (fun _ => ?_) (fun _ => ?_) <;> first | (exfalso; omega) | (conv => whnf)))
           | (show Cat _ _ _; first
             | (refine Cat.txt (a := hd) (b := tl) rfl rfl (by omega) ?_; conv => whnf))
           | (show CallN _ _ _ _ _ _; first
             | (refine CallN.fn rfl (c1 _) (fun v h' hl hr => ?_); obtain ⟨s', rfl, hs'⟩ := hr; conv => whnf)
             | (refine CallN.fn rfl (c2 _) (fun v h' hl hr => ?_); obtain ⟨s', rfl, hs'⟩ := hr; conv => whnf)
             | (refine CallN.fn rfl (c3 _) (fun v h' hl hr => ?_); obtain ⟨s', rfl, hs'⟩ := hr; conv => whnf)
             | (refine CallN.fn rfl (Small_ct _ 10 (by omega)) (fun v h' hl hr => ?_); obtain ⟨s', rfl, hs'⟩ := hr; conv => whnf)
             | (refine CallN.fn rfl (Small_ct _ 1 (by omega)) (fun v h' hl hr => ?_); obtain ⟨s', rfl, hs'⟩ := hr; conv => whnf)
             | (rw [z3]; refine CallN.fn rfl (c4 _ _ (by assumption)) (fun v h' hl hr => ?_); obtain ⟨s', rfl, hs'⟩ := hr; conv => whnf)
             | (refine CallN.quiet rfl (Zero_ct _ _ _ (by assumption) (by omega)) ?_; conv => whnf)
             | (refine CallN.fn rfl (Reduce_ct _ (by (iterate 30 (try first | assumption | refine Tb.mono ?_ (by assumption))); first | done | assumption) _ _ _ A P (by (iterate 30 (try first | assumption | refine IsNat.mono ?_ (by assumption))); first | done | assumption) (by assumption) (by omega) (by omega) n0) (fun v h' hl hr => ?_); obtain ⟨a', b', rfl, hq'⟩ := hr; conv => whnf)
             | (refine CallN.fn rfl (Reduce_ct _ (by (iterate 30 (try first | assumption | refine Tb.mono ?_ (by assumption))); first | done | assumption) _ _ _ B E (by (iterate 30 (try first | assumption | refine IsNat.mono ?_ (by assumption))); first | done | assumption) (by (iterate 30 (try first | assumption | refine IsNat.mono ?_ (by assumption))); first | done | assumption) (by omega) (by omega) (by assumption)) (fun v h' hl hr => ?_); obtain ⟨a', b', rfl, hq'⟩ := hr; conv => whnf)
             | (refine CallN.fn rfl (Reduce_ct _ (by (iterate 30 (try first | assumption | refine Tb.mono ?_ (by assumption))); first | done | assumption) _ _ _ B 1 (by (iterate 30 (try first | assumption | refine IsNat.mono ?_ (by assumption))); first | done | assumption) (by assumption) (by omega) (by omega) (by decide)) (fun v h' hl hr => ?_); obtain ⟨a', b', rfl, hq'⟩ := hr; conv => whnf)
             | (refine CallN.fn rfl (Give_ct _ _ _ _ (by assumption) s1) (fun v h' hl hr => ?_); obtain ⟨x1, x2, rfl, hq''⟩ := hr; conv => whnf)
             | (refine CallN.fn rfl (Give_ct _ _ _ _ (by assumption) (s2 (by assumption))) (fun v h' hl hr => ?_); obtain ⟨x1, x2, rfl, hq''⟩ := hr; conv => whnf)
             | (refine CallN.fn rfl (Give_ct _ _ _ _ (by assumption) s3) (fun v h' hl hr => ?_); obtain ⟨x1, x2, rfl, hq''⟩ := hr; conv => whnf))
           | ((first | refine opsI.step ?_ | refine codeI.step ?_); conv => whnf)
           | (show WrapN _ _ _; first
             | (refine WrapN.i64 (by omega) (by omega) ?_; conv => whnf))
           | (show LdN _ _ _ _ _; first
             | (refine LdN.own 0 rfl rfl ?_; conv => whnf))
           | (show Sto _ _ _ _; first
             | (refine Sto.lit 0 rfl rfl rfl ?_; conv => whnf)))
        all_goals first
          | (rw [e1 (by assumption)]; exact RetN.all (Res.err _ _))
          | (rw [e2 (by assumption)]; exact RetN.all (Res.err _ _))
          | (rw [e3 (by assumption) (by omega)]; exact RetN.all (Res.err _ _))
          | (rw [e4 (by omega) (by omega) (by omega)]; exact RetN.all (Res.err _ _))
          | (rw [q2 (by assumption) (by assumption) (fun x => by first | exact absurd x (by assumption) | omega) (by omega) (by assumption)]; exact RetN.all (Res.err _ _))
          | (rw [q1 (by assumption) (by assumption) (fun x => by first | exact absurd x (by assumption) | omega) (by omega)]; exact RetN.all ⟨_, _, rfl, (by assumption)⟩)
          | (rw [q3 (by assumption) (by assumption) (fun x => by first | exact absurd x (by assumption) | omega) (by omega) (by assumption)]; exact RetN.all ⟨_, _, rfl, (by assumption)⟩)
          | (rw [q4 (by assumption) (by assumption) (fun x => by first | exact absurd x (by assumption) | omega) (by omega)]; exact RetN.all ⟨_, _, rfl, (by assumption)⟩)
end Go.Proofs.YteblflmnhegmjaaDoor
