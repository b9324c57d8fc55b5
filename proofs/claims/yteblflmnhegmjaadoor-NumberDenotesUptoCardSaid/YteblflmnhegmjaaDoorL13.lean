/- Another value that denotes the same number, as the statement on what values denote makes it. -/
import Derived.Test.YteblflmnhegmjaaDoorV1
import Derived.Test.YteblflmnhegmjaaDoorU2
import Derived.Test.YteblflmnhegmjaaDoorT3
set_option linter.unusedVariables false
set_option linter.unusedSimpArgs false
namespace Go.Proofs.YteblflmnhegmjaaDoor
open Go Go.Vc Go.Dig

/-- a list of words, multiplied, with a word 0 behind -/
structure Scd (l : List Nat) (K : Nat) (xs : List Nat) : Prop where
  b : ∀ x ∈ xs, x < 4294967296
  n : xs.length = l.length + 2
  v : evl 4294967296 xs = evl 4294967296 l * (K + 1)
theorem scd_step {l xs : List Nat} {K j c d p s : Nat} (hK : K ≤ 65535) (hd : d = l.getD j 0) (hdB : d < 4294967296) (hc : c ≤ K) (hx : xs.length = j) (he : evl 4294967296 xs + 4294967296 ^ j * c = evl 4294967296 (l.take j) * (K + 1)) (hp : p = d * (K + 1)) (hs : s = c + p) :
    s < 18446744073709551616 ∧ s / 4294967296 ≤ K ∧ evl 4294967296 (xs ++ [s % 4294967296]) + 4294967296 ^ (j + 1) * (s / 4294967296) = evl 4294967296 (l.take (j + 1)) * (K + 1) := by
  have h1 : p ≤ 4294967295 * (K + 1) := by rw [hp]; exact Nat.mul_le_mul_right _ (by omega)
  refine ⟨by omega, by omega, ?_⟩
  rw [evl_snoc, hx, evl_take_next, ← hd, Nat.pow_succ, Nat.mul_assoc, Nat.add_assoc, ← Nat.mul_add, Nat.mod_add_div, hs, Nat.mul_add, ← Nat.add_assoc, he, Nat.add_mul, hp, Nat.mul_assoc]

theorem scd_end {X ys : List Nat} {K c j : Nat} (hj : j = X.length) (hyl : ys.length = j) (hyB : ∀ y ∈ ys, y < 4294967296) (hc : c < 4294967296) (he : evl 4294967296 ys + 4294967296 ^ j * c = evl 4294967296 (X.take j) * (K + 1)) : Scd X K (ys ++ [c, 0]) := by
  subst hj
  refine ⟨fun x hx => ?_, by simp; omega, ?_⟩
  · rcases List.mem_append.1 hx with hx | hx
    · exact hyB x hx
    · rcases List.mem_cons.1 hx with rfl | hx
      · exact hc
      · rcases List.mem_cons.1 hx with rfl | hx
        · omega
        · cases hx
  · rw [evl_append, hyl]
    simp only [evl_cons, evl_nil, Nat.mul_zero, Nat.add_zero]
    rw [he, List.take_length]

set_option maxRecDepth 20000 in
set_option maxHeartbeats 2000000 in
theorem scaled_ct (h : Heap) (neg : Bool) (a b : Sl) (l m : List Nat) (hv : IsVal h a b l m) (K : Nat) (hK : K ≤ 65535) (sl : l.length ≤ 64) (sm : m.length ≤ 64) :
    Fn0 T F.law01_scaled [.agg #[.bool neg, a.val, b.val], .int .u16 K] h fun v h' => ∃ (c d : Sl) (xs ys : List Nat), v = .agg #[.bool neg, c.val, d.val] ∧ Ws .u32 h' c xs ∧ Ws .u32 h' d ys ∧ Scd l K xs ∧ Scd (if m.length = 0 then [1] else m) K ys := by
  have i1 := hv.num.len
  have i2 := hv.den.len
  refine fn0_of_codeI ok D.law01_scaled rfl ?_
  conv => whnf
  repeat ((first | refine opsI.step ?_ | refine codeI.step ?_); conv => whnf)
  repeat' first
   | ((first | refine opsI.step ?_ | refine codeI.step ?_); conv => whnf)
   | (intro (_ : Nat); conv => whnf)
   | (show Ld _ _ _ _; first
     | (refine Ld.own 1 rfl rfl ?_; conv => whnf)
     | (refine Ld.own 2 rfl rfl ?_; conv => whnf))
   | (show Sto _ _ _ _; first
     | (refine Sto.lit 0 rfl rfl rfl ?_; conv => whnf))
  rename_i bx b4 b5
  obtain ⟨M, hM⟩ : ∃ M, M = (if m.length = 0 then [1] else m) := ⟨_, rfl⟩
  have hM1 : m.length = 0 → M = [1] := fun e => by rw [hM, if_pos e]
  have hM2 : m.length ≠ 0 → M = m := fun e => by rw [hM, if_neg e]
  have hMB : ∀ x ∈ M, x < 4294967296 := by
    rw [hM]; split
    · intro x hx; simp at hx; omega
    · exact hv.lm
  have hMl : M.length ≤ 64 := by
    rw [hM]; split
    · simp
    · omega
  rw [← hM]
  refine SeqN.cut (fun ρ h' L => ∃ (d : Sl) (G : Own), rd ρ 6 = d.val ∧ h' = h ∧ L = G ++ [(b5, .cells [.bool neg, .slice none 0 0, .slice none 0 0].toArray Ty.api_Rat (0, 0)), (b4, .cells [.bool false, .slice none 0 0, .slice none 0 0].toArray Ty.api_Rat (0, 0)), (bx, .cells [.bool neg, a.val, b.val].toArray Ty.api_Rat (0, 0))] ∧ ((G = [] ∧ Ws .u32 h d M) ∨ GrowS Ty.uint32 1 d.val M.length (M.map (vu .u32)) G)) ?_ ?_
  · conv => whnf
    repeat ((first | refine opsI.step ?_ | refine codeI.step ?_); conv => whnf)
    repeat' first
     | ((first | refine opsI.step ?_ | refine codeI.step ?_); conv => whnf)
     | (intro (_ : Nat); conv => whnf)
     | (show cnd _ _ _; first
       | (refine cnd_eq (fun _ => ?_) (fun _ => ?_) <;> first | (exfalso; omega) | (conv => whnf)))
    · rename_i _ bd
      refine ⟨rfl, ⟨some ⟨bd, 0, none⟩, 1, 1⟩, [(bd, .cells [.int .u32 1].toArray Ty.uint32 (0, 0))], rfl, rfl, rfl, .inr ?_⟩
      rw [hM1 (by omega)]
      exact ⟨rfl, .inr ⟨0, bd, 1, [], rfl, rfl, by simp, rfl⟩⟩
    · exact ⟨rfl, b, [], rfl, rfl, rfl, .inl ⟨rfl, by rw [hM2 (by omega)]; exact hv.den⟩⟩
  conv => whnf
  repeat intro _
  rename_i h1 L1 hJ
  obtain ⟨d, G, e0, rfl, rfl, hd⟩ := hJ
  conv at e0 => lhs; whnf
  subst e0
  conv => whnf
  repeat ((first | refine opsI.step ?_ | refine codeI.step ?_); conv => whnf)
  repeat' first
   | (show Ld _ _ _ _; first
     | (refine Ld.tail2 rfl ?_; conv => whnf))
   | ((first | refine opsI.step ?_ | refine codeI.step ?_); conv => whnf)
   | (intro (_ : Nat); conv => whnf)
  rename_i ba
  refine LoopN.keep0 fun h2 hle0 hba => ?_
  replace hv := hv.mono hle0
  replace hd := hd.imp (fun x => And.intro x.1 (x.2.mono hle0)) id
  refine LoopN.rowF (G := G) hd fun h3 G3 hle1 hd => ?_
  replace hv := hv.mono hle1
  replace hba := hle1 _ _ hba
  clear hle0 hle1
  have hget : ∀ k : Nat, k ≤ 1 → ∃ (s : Sl) (X : List Nat), (∀ h' L, h3.le h' → Has h' L ⟨ba, k, none⟩ s.val) ∧ Ws .u32 h3 s X ∧ (∀ x ∈ X, x < 4294967296) ∧ X.length ≤ 64 ∧ (k = 0 → X = l) ∧ (k = 1 → X = M) := by
    intro k hk
    rcases (show k = 0 ∨ k = 1 by omega) with rfl | rfl
    · exact ⟨a, l, fun h' L hle => Has.imm (hle _ _ hba) rfl, hv.num, hv.ln, sl, fun _ => rfl, fun h => by omega⟩
    · exact ⟨d, M, fun h' L hle => Has.imm (hle _ _ hba) rfl, hd, hMB, hMl, fun h => by omega, fun _ => rfl⟩
  refine LoopN.of (fun r ρ h' L => ∃ (k : Nat) (u v : Sl) (G : Own), r = 2 - k ∧ k ≤ 2 ∧ h3.le h' ∧ rd ρ 27 = .int .i64 k ∧ L = G ++ [(b5, .cells [.bool neg, u.val, v.val].toArray Ty.api_Rat (0, 0)), (b4, .cells [.bool false, .slice none 0 0, .slice none 0 0].toArray Ty.api_Rat (0, 0)), (bx, .cells [.bool neg, a.val, b.val].toArray Ty.api_Rat (0, 0))] ∧
      (k ≤ 1 → v = ⟨none, 0, 0⟩ ∧ ∃ xs n, GrowS Ty.uint32 1 u.val n (xs.map (vu .u32)) G ∧ (k = 1 → Scd l K xs)) ∧ (k = 2 → ∃ xs ys n, Ws .u32 h' u xs ∧ Scd l K xs ∧ Scd M K ys ∧ GrowS Ty.uint32 1 v.val n (ys.map (vu .u32)) G)) 2
    ⟨0, ⟨none, 0, 0⟩, ⟨none, 0, 0⟩, G3, rfl, by omega, Heap.le_refl _, rfl, rfl, fun _ => ⟨rfl, [], 0, GrowS.none, fun h => by omega⟩, fun h => by omega⟩ ?_
  conv => whnf
  repeat intro _
  rename_i r h4 L4 hI
  obtain ⟨k, u, v, G4, rfl, hk, hle, e0, rfl, hI1, hI2⟩ := hI
  conv at e0 => lhs; whnf
  subst e0
  conv => whnf
  repeat ((first | refine opsI.step ?_ | refine codeI.step ?_); conv => whnf)
  repeat' first
   | (show LdN _ _ _ _ _; first
     | (refine LdN.tail rfl ?_; conv => whnf)
     | (refine LdN.tail1 rfl ?_; conv => whnf))
   | (show Sto _ _ _ _; first
     | (refine Sto.tail1 rfl ?_; conv => whnf))
   | ((first | refine opsI.step ?_ | refine codeI.step ?_); conv => whnf)
   | (show cnd _ _ _; first
     | (refine cnd_lt (fun _ => ?_) (fun _ => ?_) <;> first | (exfalso; omega) | (conv => whnf)))
  rotate_left
  · obtain rfl : k = 2 := by omega
    obtain ⟨xs, ys, n, w, c1, c2, g⟩ := hI2 rfl
    refine RetN.rowF g fun h' hl' w' => ?_
    exact ⟨u, v, xs, ys, rfl, w.mono hl', w', c1, c2⟩
  obtain ⟨rfl, xs, n, g, c1⟩ := hI1 (by omega)
  obtain ⟨s, X, hs, hw, hX, hXl, hX0, hX1⟩ := hget k (by omega)
  have hwl := hw.len
  clear hI1 hI2 hget
  refine SeqN.go ?_
  conv => whnf
  repeat' first
   | (show Idx _ _ _ _ _; first
     | (refine Idx.one k rfl rfl (by omega) ?_; conv => whnf))
   | (show Ld _ _ _ _; first
     | (refine Ld.of (by simpa using hs _ _ hle) ?_; conv => whnf))
   | ((first | refine opsI.step ?_ | refine codeI.step ?_); conv => whnf)
  refine LoopN.growF g fun h5 G5 t hl5 ht w5 => ?_
  obtain rfl := Sl.val_inj ht
  replace hw := (hw.mono hle).mono hl5
  refine LoopN.of (fun r ρ h' L => ∃ (j c : Nat) (v : Value) (ys : List Nat) (G : Own), r = X.length - j ∧ j ≤ X.length ∧ h' = h5 ∧ rd ρ 34 = .int .i64 j ∧ rd ρ 9 = v ∧ rd ρ 10 = .int .u64 c ∧ GrowS Ty.uint32 1 v j (ys.map (vu .u32)) G ∧ L = G ++ [(b5, .cells [.bool neg, u.val, .slice none 0 0].toArray Ty.api_Rat (0, 0)), (b4, .cells [.bool false, .slice none 0 0, .slice none 0 0].toArray Ty.api_Rat (0, 0)), (bx, .cells [.bool neg, a.val, b.val].toArray Ty.api_Rat (0, 0))] ∧
      c ≤ K ∧ ys.length = j ∧ (∀ y ∈ ys, y < 4294967296) ∧ Hq (evl 4294967296 ys + 4294967296 ^ j * c = evl 4294967296 (X.take j) * (K + 1))) X.length
    ⟨0, 0, _, [], G5, rfl, by omega, rfl, rfl, rfl, rfl, GrowS.none, rfl, by omega, rfl, by simp, ⟨by simp [evl_nil]⟩⟩ ?_
  conv => whnf
  repeat intro _
  rename_i r h6 L6 hI
  obtain ⟨j, c, w, ys, G6, rfl, hj, rfl, e0, e1, e2, g6, rfl, hc, hyl, hyB, he⟩ := hI
  conv at e0 => lhs; whnf
  subst e0
  conv at e1 => lhs; whnf
  subst e1
  conv at e2 => lhs; whnf
  subst e2
  have hd := getD_lt (b := 4294967296) (by omega) hX j
  obtain ⟨dj, hdj⟩ : ∃ dj, dj = X.getD j 0 := ⟨_, rfl⟩
  rw [← hdj] at hd
  have p0 := fun p s (hp : p = dj * (K + 1)) (hs : s = c + p) => scd_step hK hdj hd hc hyl he.out hp hs
  obtain ⟨K1, hK1⟩ : ∃ K1, K1 = K + 1 := ⟨_, rfl⟩
  obtain ⟨p, hp⟩ : ∃ p, p = dj * K1 := ⟨_, rfl⟩
  obtain ⟨s', hs'⟩ : ∃ s', s' = c + p := ⟨_, rfl⟩
  obtain ⟨q1, q2, q3⟩ := p0 p s' (by rw [hp, hK1]) hs'
  replace q3 := Hq.mk q3
  clear p0
  conv => whnf
  repeat ((first | refine opsI.step ?_ | refine codeI.step ?_); conv => whnf)
  repeat' first
   | (show Idx _ _ _ _ _; first
     | (refine Idx.ws hw j (by omega) (by omega) (fun ad hv => ?_); conv => whnf))
   | (show Ld _ _ _ _; first
     | (refine Ld.of (by first | exact hv _ | (rename_i hv; exact hv _)) ?_; rw [← hdj]; conv => whnf))
   | (show WrapN _ _ _; first
     | (refine WrapN.u64v dj (by omega) ?_; conv => whnf)
     | (refine WrapN.u64v K1 (by omega) ?_; conv => whnf)
     | (refine WrapN.mul32 (x := dj) (y := K1) (by omega) (by omega) (fun pp hpp hpl => ?_); obtain rfl : pp = p := by rw [hpp.out, hp])
     | (refine WrapN.u64v s' (by omega) ?_; conv => whnf)
     | (refine WrapN.u32v (s' % 4294967296) (by omega) ?_; conv => whnf)
     | (refine WrapN.i64 (by omega) (by omega) ?_; conv => whnf)
     | (refine WrapN.u64 (by omega) (by omega) ?_; conv => whnf)
     | (refine WrapN.u32 (by omega) (by omega) ?_; conv => whnf))
   | (show App _ _ _ _ _ _ _ _ _; first
     | (refine App.pushF rfl g6 (s' % 4294967296) (by omega) (by omega) (by decide) (fun v' G' g' => ?_); conv => whnf)
     | (refine App.push2F rfl g6 c 0 rfl rfl (by omega) (by decide) (fun v' G' g' => ?_); obtain ⟨t', rfl⟩ := g'.sl; conv => whnf))
   | (show Sto _ _ _ _; first
     | (refine Sto.tail rfl rfl ?_; conv => whnf))
   | (show ShrN _ _ _ _; first
     | (refine ShrN.sym (x := s') (r := 32) rfl rfl (by decide) (fun qq hqq hqql => ?_); conv => whnf))
   | ((first | refine opsI.step ?_ | refine codeI.step ?_); conv => whnf)
   | (intro (_ : Nat); conv => whnf)
   | (show cnd _ _ _; first
     | (refine cnd_lt (fun _ => ?_) (fun _ => ?_) <;> first | (exfalso; omega) | (conv => whnf))
     | (refine cnd_eq (fun _ => ?_) (fun _ => ?_) <;> first | (exfalso; omega) | (conv => whnf)))
  · refine ⟨rfl, X.length - (j + 1), by omega, j + 1, qq, v', _, G', rfl, by omega, rfl, vi (by omega), rfl, rfl, g', rfl, by have := hqq.out; omega, by simp; omega, mem_snoc hyB (Nat.mod_lt _ (by decide)), ⟨?_⟩⟩
    rw [show qq = s' / 4294967296 from hqq.out]; exact q3.out
  · obtain rfl : k = 0 := by omega
    have e := scd_end (by omega) hyl hyB (by omega) he.out
    rw [hX0 rfl] at e
    exact ⟨rfl, 2 - 1, by omega, 1, t', ⟨none, 0, 0⟩, G', rfl, by omega, Heap.le_trans hle hl5, vi (by omega), rfl, fun _ => ⟨rfl, _, _, g', fun _ => e⟩, fun h => by omega⟩
  · obtain rfl : k = 1 := by omega
    have e := scd_end (by omega) hyl hyB (by omega) he.out
    rw [hX1 rfl] at e
    exact ⟨rfl, 2 - 2, by omega, 2, u, t', G', rfl, by omega, Heap.le_trans hle hl5, vi (by omega), rfl, fun h => by omega, fun _ => ⟨xs, _, _, w5, c1 rfl, e, g'⟩⟩
theorem scaled_val {neg : Bool} {l m xs ys : List Nat} {K : Nat} (hl : ∀ x ∈ l, x < 4294967296) (hm : ∀ x ∈ m, x < 4294967296) (sl : l.length ≤ 64) (sm : m.length ≤ 64) (h0 : m.length ≠ 0 → evl 4294967296 m ≠ 0) (c1 : Scd l K xs) (c2 : Scd (if m.length = 0 then [1] else m) K ys) : valOf neg xs ys = valOf neg l m := by
  obtain ⟨D, hD⟩ : ∃ D, D = (if evl 4294967296 m = 0 then 1 else evl 4294967296 m) := ⟨_, rfl⟩
  have hD0 : D ≠ 0 := by rw [hD]; split <;> omega
  have e2 : evl 4294967296 ys = (K + 1) * D := by
    rw [c2.v, Nat.mul_comm, hD]
    by_cases hm0 : m.length = 0
    · rw [if_pos hm0, List.eq_nil_of_length_eq_zero hm0]; simp [evl_nil, evl_cons]
    · rw [if_neg hm0, if_neg (h0 hm0)]
  have e1 : evl 4294967296 xs = (K + 1) * evl 4294967296 l := by rw [c1.v, Nat.mul_comm]
  have er : ratOf neg xs ys = ratOf neg l m := by
    unfold ratOf
    rw [e1, e2, if_neg (Nat.mul_ne_zero (by omega) hD0), ← hD, mkQ_mul_left _ (by omega)]
  have ml : (if m.length = 0 then [1] else m).length ≤ 64 := by
    split
    · exact (by decide : 1 ≤ 64)
    · exact sm
  have lb : ∀ {z : List Nat} {k : Nat}, (∀ x ∈ z, x < 4294967296) → z.length ≤ 256 → ln 4294967296 (evl 4294967296 z) ≤ 256 := fun hz hk => Nat.le_trans ((ln_le_iff two_le_B).2 (evl_lt two_le_B hz)) hk
  have hok : okR neg xs ys ↔ okR neg l m := by
    unfold okR
    rw [er]
    have a1 := lb (k := 0) c1.b (by have := c1.n; omega)
    have a2 := lb (k := 0) c2.b (by have := c2.n; omega)
    have a3 := lb (k := 0) hl (by omega)
    have a4 := lb (k := 0) hm (by omega)
    exact ⟨fun x => ⟨a3, a4, x.2.2⟩, fun x => ⟨a1, a2, x.2.2⟩⟩
  unfold valOf
  by_cases hk : okR neg l m
  · rw [if_pos hk, if_pos (hok.2 hk), er]
  · rw [if_neg hk, if_neg (fun x => hk (hok.1 x))]
def fmtR : Option Rat → List Nat × Int
  | some q => (fmtL q, 0)
  | none => ([], 1)
theorem FormatN (h : Heap) (n1 : Bool) (a1 b1 : Sl) (x : Option Rat) (tb : Tb h) (hx : IsNum h n1 a1 b1 x) :
    Fn0 T F.number_Format [.agg #[.bool n1, a1.val, b1.val]] h fun v _ => v = .tuple #[.string (txt (fmtR x).1), .int .i64 (fmtR x).2] := by
  obtain ⟨l1, m1, v1, rfl⟩ := hx.ex
  have e : fmtR (valOf n1 l1 m1) = specFmt n1 l1 m1 := by
    unfold specFmt valOf
    by_cases h1 : okR n1 l1 m1 <;> simp [h1, fmtR]
  rw [e]
  exact NFormat_ct h tb n1 a1 b1 l1 m1 v1
def bitsR : Option Rat → Int × Int
  | some q => (bitsQ q, 0)
  | none => (0, 1)
theorem BitsN (h : Heap) (n1 : Bool) (a1 b1 : Sl) (x : Option Rat) (tb : Tb h) (hx : IsNum h n1 a1 b1 x) :
    Fn0 T F.number_Bits [.agg #[.bool n1, a1.val, b1.val]] h fun v _ => v = .tuple #[.int .i64 (bitsR x).1, .int .i64 (bitsR x).2] := by
  obtain ⟨l1, m1, v1, rfl⟩ := hx.ex
  have e : bitsR (valOf n1 l1 m1) = specBits n1 l1 m1 := by
    unfold specBits valOf
    by_cases h1 : okR n1 l1 m1 <;> simp [h1, bitsR]
  rw [e]
  exact NBits_ct h tb n1 a1 b1 l1 m1 v1
set_option maxRecDepth 20000 in
theorem RZero_ct (h : Heap) (n : Bool) (a : Sl) (l : List Nat) (hw : Ws .u32 h a l) (hl : ∀ x ∈ l, x < 4294967296) (hs : l.length ≤ 1073741824) :
    Fn0 T F.ref01_Zero [.agg #[.bool n, a.val, .slice none 0 0]] h fun v _ => v = .bool (dec (evl 4294967296 l = 0)) := by
  have k := ln16_le hl
  have z := ln_eq_zero two_le_b (n := evl 4294967296 l)
  obtain ⟨x, hx⟩ : ∃ x, x = evl 4294967296 l := ⟨_, rfl⟩
  have c := fun h w => words_ct h a l w hl (by omega)
  rw [← hx] at k z c
  rw [← hx]
  have q1 : ln 65536 x = 0 → x = 0 := z.1
  have q2 : ln 65536 x ≠ 0 → x ≠ 0 := fun h e => h (z.2 e)
  clear z
  refine fn0_of_codeI ok D.ref01_Zero rfl ?_
  conv => whnf
  repeat ((first | refine opsI.step ?_ | refine codeI.step ?_); conv => whnf)
  repeat' first
   | (show CallN _ _ _ _ _ _; first
     | (refine CallN.fn rfl (c _ (by assumption)) (fun v h' hl hr => ?_); obtain ⟨s1, rfl, hs1⟩ := hr; have hl1 := hs1.len; conv => whnf))
   | ((first | refine opsI.step ?_ | refine codeI.step ?_); conv => whnf)
   | (intro (_ : Nat); conv => whnf)
   | (show Ld _ _ _ _; first
     | (refine Ld.own 0 rfl rfl ?_; conv => whnf))
  refine RetN.all ?_
  by_cases h0 : ln 65536 x = 0
  · rw [dec_true (q1 h0), Vc.eq_true' (by omega)]
  · rw [dec_false (q2 h0), Vc.eq_false' (by omega)]

set_option maxRecDepth 20000 in
set_option maxHeartbeats 4000000 in
theorem Denotes_law (h : Heap) (tb : Tb h) (n1 : Bool) (a1 b1 : Sl) (l1 m1 : List Nat) (hv1 : IsVal h a1 b1 l1 m1) (n2 : Bool) (a2 b2 : Sl) (l2 m2 : List Nat) (hv2 : IsVal h a2 b2 l2 m2) (k : Int) (lo : 0 ≤ k) (hi : k ≤ 65535) :
    Fn0 T F.law01_NumberDenotes [.agg #[.bool n1, a1.val, b1.val], .agg #[.bool n2, a2.val, b2.val], .int .u16 k] h fun v _ => v = .bool true := by
  obtain ⟨K, rfl⟩ : ∃ K : Nat, k = K := ⟨k.toNat, by omega⟩
  have i1 := hv1.num.len
  have i2 := hv1.den.len
  obtain ⟨x, hx⟩ : ∃ x, x = valOf n1 l1 m1 := ⟨_, rfl⟩
  obtain ⟨y, hy⟩ : ∃ y, y = valOf n2 l2 m2 := ⟨_, rfl⟩
  have u1 : IsNum h n1 a1 b1 x := by rw [hx]; exact hv1.num'
  have u2 : IsNum h n2 a2 b2 y := by rw [hy]; exact hv2.num'
  have hsc : l1.length ≤ 64 → m1.length ≤ 64 → (m1.length ≠ 0 → evl 4294967296 m1 ≠ 0) → ∀ h', h.le h' → Fn0 T F.law01_scaled [.agg #[.bool n1, a1.val, b1.val], .int .u16 K] h' fun v h' => ∃ (c d : Sl), v = .agg #[.bool n1, c.val, d.val] ∧ IsNum h' n1 c d x := fun s1 s2 s3 h' hle =>
    (scaled_ct h' n1 a1 b1 l1 m1 (hv1.mono hle) K (by omega) s1 s2).mono fun v h' _ ⟨c, d, xs, ys, e, w1, w2, c1, c2⟩ =>
      ⟨c, d, e, xs, ys, ⟨w1, w2, c1.b, c2.b, by have := c1.n; omega, by have := c2.n; have : (if m1.length = 0 then [1] else m1).length ≤ 64 := (by split; exact (by decide : 1 ≤ 64); exact s2); omega⟩, by rw [hx, scaled_val hv1.ln hv1.lm s1 s2 s3 c1 c2]⟩
  obtain ⟨z, hz⟩ : ∃ z, z = evl 4294967296 m1 := ⟨_, rfl⟩
  have hz1 := hv1.lm
  have hz2 := hv1.sm
  have czero := fun h w => RZero_ct h false b1 m1 w hz1 hz2
  rw [← hz] at czero hsc
  obtain ⟨p1, g1⟩ : ∃ q, q = opR (· + ·) x y := ⟨_, rfl⟩
  obtain ⟨p2, g2⟩ : ∃ q, q = opR (· * ·) x y := ⟨_, rfl⟩
  obtain ⟨⟨c3, d3⟩, g3⟩ : ∃ q : Int × Int, q = cmpR x y := ⟨_, rfl⟩
  obtain ⟨⟨f4, e4⟩, g4⟩ : ∃ q : List Nat × Int, q = fmtR x := ⟨_, rfl⟩
  obtain ⟨s4, hs4⟩ : ∃ s, s = txt f4 := ⟨_, rfl⟩
  obtain ⟨⟨c5, d5⟩, g5⟩ : ∃ q : Int × Int, q = bitsR x := ⟨_, rfl⟩
  have k1 : Fok p1 := by rw [g1]; exact Fok.opR _ _ _
  have k2 : Fok p2 := by rw [g2]; exact Fok.opR _ _ _
  have w2 := hv1.den
  have j1 : m1.length ≠ 0 → b1.l ≠ 0 := fun h => by omega
  clear hz1 hz2
  refine fn0_of_codeI ok D.law01_NumberDenotes rfl ?_
  conv => whnf
  repeat ((first | refine opsI.step ?_ | refine codeI.step ?_); conv => whnf)
  repeat' first
   | (show CallN _ _ _ _ _ _; first
     | (refine CallN.fn rfl (czero _ (by assumption)) (fun v h' hl hr => ?_); obtain rfl := hr; conv => whnf)
     | (refine CallN.fn rfl (awake_ct _ (by (iterate 30 (try first | assumption | refine Tb.mono ?_ (by assumption))); first | done | assumption)) (fun v h' hl hr => ?_); obtain rfl := hr; conv => whnf)
     | (refine CallN.fn rfl (hsc (by omega) (by omega) (fun _ => by omega) _ (by (iterate 30 (try first | assumption | exact Heap.le_refl _)); first | done | assumption)) (fun v h' hl hr => ?_); obtain ⟨c, d, rfl, u3⟩ := hr; conv => whnf)
     | (refine CallN.fn rfl (AddN _ _ _ _ _ _ _ x y (by (iterate 30 (try first | assumption | refine Tb.mono ?_ (by assumption))); first | done | assumption) (by (iterate 30 (try first | assumption | refine IsNum.mono ?_ (by assumption))); first | done | assumption) (by (iterate 30 (try first | assumption | refine IsNum.mono ?_ (by assumption))); first | done | assumption)) (fun v h' hl hr => ?_); rw [← g1] at hr; obtain ⟨c, d, rfl, hq, hn⟩ := hr; conv => whnf)
     | (refine CallN.fn rfl (MulN _ _ _ _ _ _ _ x y (by (iterate 30 (try first | assumption | refine Tb.mono ?_ (by assumption))); first | done | assumption) (by (iterate 30 (try first | assumption | refine IsNum.mono ?_ (by assumption))); first | done | assumption) (by (iterate 30 (try first | assumption | refine IsNum.mono ?_ (by assumption))); first | done | assumption)) (fun v h' hl hr => ?_); rw [← g2] at hr; obtain ⟨c, d, rfl, hq, hn⟩ := hr; conv => whnf)
     | (refine CallN.fn rfl (CompareN _ _ _ _ _ _ _ x y (by (iterate 30 (try first | assumption | refine Tb.mono ?_ (by assumption))); first | done | assumption) (by (iterate 30 (try first | assumption | refine IsNum.mono ?_ (by assumption))); first | done | assumption) (by (iterate 30 (try first | assumption | refine IsNum.mono ?_ (by assumption))); first | done | assumption)) (fun v h' hl hr => ?_); rw [← g3] at hr; obtain rfl := (show v = .tuple #[.int .i64 c3, .int .i64 d3] from hr); conv => whnf)
     | (refine CallN.fn rfl (FormatN _ _ _ _ x (by (iterate 30 (try first | assumption | refine Tb.mono ?_ (by assumption))); first | done | assumption) (by (iterate 30 (try first | assumption | refine IsNum.mono ?_ (by assumption))); first | done | assumption)) (fun v h' hl hr => ?_); rw [← g4] at hr; dsimp only at hr; rw [← hs4] at hr; obtain rfl := hr; conv => whnf)
     | (refine CallN.fn rfl (BitsN _ _ _ _ x (by (iterate 30 (try first | assumption | refine Tb.mono ?_ (by assumption))); first | done | assumption) (by (iterate 30 (try first | assumption | refine IsNum.mono ?_ (by assumption))); first | done | assumption)) (fun v h' hl hr => ?_); rw [← g5] at hr; obtain rfl := (show v = .tuple #[.int .i64 c5, .int .i64 d5] from hr); conv => whnf)
     | (refine CallN.fn rfl (Is_ct _ _ _ _ _ p1.1 p1.2 (by (iterate 30 (try first | assumption | refine IsRat.mono ?_ (by assumption))); first | done | assumption) (by (iterate 30 (try first | assumption | refine IsRat.mono ?_ (by assumption))); first | done | assumption) k1.sz k1.err) (fun v h' hl hr => ?_); obtain rfl := hr; conv => whnf)
     | (refine CallN.fn rfl (Is_ct _ _ _ _ _ p2.1 p2.2 (by (iterate 30 (try first | assumption | refine IsRat.mono ?_ (by assumption))); first | done | assumption) (by (iterate 30 (try first | assumption | refine IsRat.mono ?_ (by assumption))); first | done | assumption) k2.sz k2.err) (fun v h' hl hr => ?_); obtain rfl := hr; conv => whnf))
   | (show cnd _ _ _; first
     | (refine cnd_seq (fun _ => ?_) (fun hne => ?_) <;> first | exact absurd rfl hne | (conv => whnf))
     | (refine cnd_lt (fun _ => ?_) (fun _ => ?_) <;> first | (exfalso; omega) | (conv => whnf))
     | (refine cnd_eq (fun _ => ?_) (fun _ => ?_) <;> first | (exfalso; omega) | (conv => whnf))
     | (refine cnd_dec (fun _ => ?_) (fun _ => ?_) <;> first | (exfalso; omega) | (conv => whnf)))
   | ((first | refine opsI.step ?_ | refine codeI.step ?_); conv => whnf)
   | (intro (_ : Nat); conv => whnf)
   | (show LdN _ _ _ _ _; first
     | (refine LdN.own 0 rfl rfl ?_; conv => whnf)
     | (refine LdN.own 1 rfl rfl ?_; conv => whnf)
     | (refine LdN.own 2 rfl rfl ?_; conv => whnf)
     | (refine LdN.own 3 rfl rfl ?_; conv => whnf)
     | (refine LdN.own 4 rfl rfl ?_; conv => whnf)
     | (refine LdN.own 5 rfl rfl ?_; conv => whnf)
     | (refine LdN.own 6 rfl rfl ?_; conv => whnf))
   | (show Ld _ _ _ _; first
     | (refine Ld.own 1 rfl rfl ?_; conv => whnf))
   | (show Sto _ _ _ _; first
     | (refine Sto.lit 0 rfl rfl rfl ?_; conv => whnf))
  all_goals first
    | exact RetN.all rfl
    | (rw [eq_true' rfl]; exact RetN.all rfl)
    | skip
end Go.Proofs.YteblflmnhegmjaaDoor
