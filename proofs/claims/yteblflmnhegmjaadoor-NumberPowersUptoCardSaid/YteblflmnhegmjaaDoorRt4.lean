/- Roots on a grid: number.RootDown and RootUp, the reference's RootBelow, RootAbove, GridRoot; what the statement on them computes: true. -/
import Derived.Test.YteblflmnhegmjaaDoorRt3
set_option linter.unusedVariables false
set_option linter.unusedSimpArgs false
namespace Go.Dig
/-- the scaled radicand -/
def radW (q : Rat) (K : Nat) : Nat := nu q * 2 ^ K / q.den
/-- whether its root on the grid is exact -/
def radE (q : Rat) (N K : Nat) : Prop := rt (radW q K) N ^ N = radW q K ∧ nu q * 2 ^ K % q.den = 0
instance (q : Rat) (N K : Nat) : Decidable (radE q N K) := by unfold radE; exact inferInstance
/-- the number of the grid next to the root -/
def rootQ (q : Rat) (N p : Nat) (up : Bool) : Rat := mkQ (sg q) (rt (radW q (p * N)) N + (if up = sg q ∨ radE q N (p * N) then 0 else 1)) (2 ^ p)
theorem radW_neg (q : Rat) (K : Nat) : radW (-q) K = radW q K := by unfold radW; rw [nu_neg, Rat.neg_den]
theorem radE_neg (q : Rat) (N K : Nat) : radE (-q) N K ↔ radE q N K := by unfold radE; rw [radW_neg, nu_neg, Rat.neg_den]
theorem mkQ_flip (s : Bool) (m n : Nat) : -mkQ s m n = mkQ (!s) m n := by
  unfold mkQ
  cases s
  · simp [Rat.neg_mkRat]
  · simp [Rat.neg_mkRat]
theorem rootQ_neg {q : Rat} {N p : Nat} {up : Bool} (h : sg q = true) : rootQ q N p up = -rootQ (-q) N p (!up) := by
  have hn : nu q ≠ 0 := fun e => by rw [nu_eq_zero.1 e, sg_zero] at h; cases h
  have h2 : sg (-q) = false := by rw [sg_neg, h]; rfl
  unfold rootQ
  rw [mkQ_flip, h2, h, radW_neg]
  congr 2
  have e := radE_neg q N (p * N)
  by_cases c : radE q N (p * N)
  · rw [if_pos (.inr c), if_pos (.inr (e.2 c))]
  · have c' := fun x => c (e.1 x)
    cases up
    · rw [if_neg (by simp [c]), if_neg (by
        rintro (x | x)
        · cases x
        · exact c' x)]
    · rw [if_pos (.inl rfl), if_pos (.inl rfl)]
/-- the lower number, for numbers that are not negative -/
theorem below_eq {q : Rat} {N p : Nat} (h : sg q = false) : rootQ q N p false = scaleQ (mkQ false (rt (radW q (p * N)) N) 1) (-(p : Int)) := by
  have e : mkQ false (rt (radW q (p * N)) N) 1 = ((rt (radW q (p * N)) N : Int) : Rat) := by unfold mkQ; rw [Rat.mkRat_one]; rfl
  unfold rootQ
  rw [h, if_pos (.inl rfl), Nat.add_zero, e]
  generalize rt (radW q (p * N)) N = X
  rcases Nat.eq_zero_or_pos p with h0 | h0
  · subst h0
    rw [scaleQ_up _ _ 0 (by omega), sg_int, nu_int, den_int, decide_eq_false (by omega)]
    simp
  · rw [scaleQ_dn _ _ p rfl (by omega), sg_int, nu_int, den_int, decide_eq_false (by omega), Nat.one_mul]
    simp
theorem mkRat_pow (a : Int) (b : Nat) : ∀ n : Nat, mkRat a b ^ n = mkRat (a ^ n) (b ^ n)
  | 0 => by rw [Rat.pow_zero, Int.pow_zero, Nat.pow_zero]; rfl
  | n + 1 => by rw [Rat.pow_succ, mkRat_pow a b n, Rat.mkRat_mul_mkRat, ← Int.pow_succ, ← Nat.pow_succ]
theorem below_pow {q : Rat} {N p : Nat} (hN : 1 ≤ N) (h : sg q = false) : rootQ q N p false ^ N = q ↔ radE q N (p * N) := by
  have hd := q.den_nz
  have hp := two_pow_ne p
  have e : rootQ q N p false = mkQ false (rt (radW q (p * N)) N) (2 ^ p) := by unfold rootQ; rw [h, if_pos (.inl rfl), Nat.add_zero]
  have e2 : rootQ q N p false ^ N = mkQ false (rt (radW q (p * N)) N ^ N) (2 ^ (p * N)) := by
    rw [e]
    unfold mkQ
    simp only [Bool.false_eq_true, if_false]
    rw [mkRat_pow, Nat.pow_mul, Int.natCast_pow]
  have e3 : q = mkQ false (nu q) q.den := by have := mkQ_self q; rw [h] at this; exact this.symm
  rw [e2]
  conv => lhs; rhs; rw [e3]
  rw [mkQ_eq_iff (two_pow_ne _) hd]
  simp only [Bool.false_eq_true, if_false]
  have hw := rt_le (a := radW q (p * N)) hN
  have h1 := Nat.div_add_mod (nu q * 2 ^ (p * N)) q.den
  have h2 : radW q (p * N) = nu q * 2 ^ (p * N) / q.den := rfl
  unfold radE
  generalize rt (radW q (p * N)) N ^ N = X at *
  rw [← h2] at h1
  generalize radW q (p * N) = W at *
  generalize nu q * 2 ^ (p * N) % q.den = R at *
  have h3 : (X : Int) * q.den = (nu q : Int) * (2 ^ (p * N) : Nat) ↔ X * q.den = nu q * 2 ^ (p * N) := by
    constructor <;> intro h <;> exact_mod_cast h
  rw [h3, ← h1]
  constructor
  · intro hx
    have h4 : X * q.den ≤ W * q.den := Nat.mul_le_mul_right _ hw
    rw [Nat.mul_comm q.den W] at hx
    have h5 : R = 0 := by omega
    rw [h5, Nat.add_zero] at hx
    exact ⟨Nat.eq_of_mul_eq_mul_right (Nat.pos_of_ne_zero hd) hx, h5⟩
  · rintro ⟨rfl, rfl⟩
    rw [Nat.add_zero, Nat.mul_comm]
theorem above_eq {q : Rat} {N p : Nat} (hN : 1 ≤ N) (h : sg q = false) : rootQ q N p true = if rootQ q N p false ^ N = q then rootQ q N p false else rootQ q N p false + scaleQ ((1 : Int) : Rat) (-(p : Int)) := by
  have hb := below_pow (p := p) hN h
  by_cases c : radE q N (p * N)
  · rw [if_pos (hb.2 c)]
    unfold rootQ
    rw [h, if_pos (.inr c), if_pos (.inl rfl)]
  · rw [if_neg (fun x => c (hb.1 x))]
    have e : rootQ q N p false = mkQ false (rt (radW q (p * N)) N) (2 ^ p) := by unfold rootQ; rw [h, if_pos (.inl rfl), Nat.add_zero]
    have e2 : rootQ q N p true = mkQ false (rt (radW q (p * N)) N + 1) (2 ^ p) := by unfold rootQ; rw [h, if_neg (by simp [c])]
    have e3 : scaleQ ((1 : Int) : Rat) (-(p : Int)) = mkQ false 1 (2 ^ p) := by
      rcases Nat.eq_zero_or_pos p with h0 | h0
      · subst h0
        rw [scaleQ_up _ _ 0 (by omega), sg_int, nu_int, den_int]; rfl
      · rw [scaleQ_dn _ _ p rfl (by omega), sg_int, nu_int, den_int, Nat.one_mul]; rfl
    rw [e, e2, e3]
    generalize rt (radW q (p * N)) N = X
    unfold mkQ
    simp only [Bool.false_eq_true, if_false]
    rw [Rat.mkRat_eq_div, Rat.mkRat_eq_div, Rat.mkRat_eq_div, Rat.div_def, Rat.div_def, Rat.div_def, ← Rat.add_mul]
    congr 1
    exact_mod_cast rfl
end Go.Dig
namespace Go.Proofs.YteblflmnhegmjaaDoor
open Go Go.Vc Go.Dig

def specGR (up : Bool) (n1 : Bool) (l1 m1 : List Nat) (n p : Int) : Rat × Int :=
  if okR n1 l1 m1 then (if n < 2 ∨ 8 < n ∨ p < 0 ∨ 256 < p then (0, 2) else if sg (ratOf n1 l1 m1) = true ∧ n.toNat % 2 = 0 then (0, 5) else outR (rootQ (ratOf n1 l1 m1) n.toNat p.toNat up)) else (0, 1)
theorem ln_mk {s : Bool} {X P k : Nat} (h : ln 4294967296 X ≤ k) (hP : P ≤ 256) : Sz (k + 258) (mkQ s X (2 ^ P)) := by
  have hle := mkQ_le s (m := X) (two_pow_ne P)
  have h2 := ln_two_pow P
  exact ⟨Nat.le_trans (ln_le_of_le hle.1) (by omega), Nat.le_trans (ln_le_of_le hle.2) (by omega)⟩
theorem radW_ln {q : Rat} (hs : Sz 64 q) {K : Nat} (hK : K ≤ 2048) : ln 4294967296 (radW q K) ≤ 2113 ∧ ln 4294967296 (nu q * 2 ^ K) ≤ 2113 := by
  have h1 := ln_mul two_le_B (nu q) (2 ^ K)
  have h2 := ln_two_pow K
  have h3 := hs.num
  have h4 := ln_div (nu q * 2 ^ K) q.den
  have h5 : radW q K = nu q * 2 ^ K / q.den := rfl
  rw [← h5] at h4
  exact ⟨by omega, by omega⟩
set_option maxRecDepth 20000 in
set_option maxHeartbeats 2000000 in
theorem Nroot_ct (h : Heap) (tb : Tb h) (n1 : Bool) (a1 b1 : Sl) (l1 m1 : List Nat) (hv1 : IsVal h a1 b1 l1 m1) (n p : Int) (lo : -9223372036854775808 ≤ n) (hi : n ≤ 9223372036854775807) (lo' : -9223372036854775808 ≤ p) (hi' : p ≤ 9223372036854775807) (up : Bool) :
    Fn0 T F.number_root [.agg #[.bool n1, a1.val, b1.val], .int .i64 n, .int .i64 p, .bool up] h fun v h' => Res h' v (specGR up n1 l1 m1 n p) := by
  have f2 : ¬ okR n1 l1 m1 → specGR up n1 l1 m1 n p = (0, 1) := fun x => if_neg x
  have f3 : okR n1 l1 m1 → (n < 2 ∨ 8 < n ∨ p < 0 ∨ 256 < p) → specGR up n1 l1 m1 n p = (0, 2) := fun x y => by unfold specGR; rw [if_pos x, if_pos y]
  have f4 : okR n1 l1 m1 → ¬ (n < 2 ∨ 8 < n ∨ p < 0 ∨ 256 < p) → specGR up n1 l1 m1 n p = if sg (ratOf n1 l1 m1) = true ∧ n.toNat % 2 = 0 then (0, 5) else outR (rootQ (ratOf n1 l1 m1) n.toNat p.toNat up) := fun x y => by unfold specGR; rw [if_pos x, if_neg y]
  refine fn0_of_codeI ok D.number_root rfl ?_
  conv => whnf
  repeat ((first | refine opsI.step ?_ | refine codeI.step ?_); conv => whnf)
  repeat' first
   | (show CallN _ _ _ _ _ _; first
     | (refine CallN.fn rfl (Read_ct _ (by assumption) _ _ _ l1 m1 (by assumption)) (fun v h' hle1 hr => ?_); obtain ⟨s1, c1, d1, rfl, hok1⟩ := hr; conv => whnf))
   | ((first | refine opsI.step ?_ | refine codeI.step ?_); conv => whnf)
   | (intro (_ : Nat); conv => whnf)
   | (show cnd _ _ _; first
     | (refine cnd_lt (fun _ => ?_) (fun _ => ?_) <;> first | (exfalso; omega) | (conv => whnf))
     | (refine cnd_not ?_)
     | (refine cnd_dec (fun _ => ?_) (fun _ => ?_) <;> first | (exfalso; omega) | (conv => whnf))
     | (refine cnd_bool (fun hb => ?_) (fun hb => ?_) <;> (first | cases hb | subst hb) <;> (conv => whnf)))
   | (show LdN _ _ _ _ _; first
     | (refine LdN.own 1 rfl rfl ?_; conv => whnf))
   | (show Ld _ _ _ _; first
     | (refine Ld.own 0 rfl rfl ?_; conv => whnf))
   | (show Sto _ _ _ _; first
     | (refine Sto.lit 0 rfl rfl rfl ?_; conv => whnf)
     | (refine Sto.lit 1 rfl rfl rfl ?_; conv => whnf))
   | (show DrawN _ _ _ _ _ _; first
     | (refine DrawN.run (by decide +kernel) ?_; conv => whnf))
  all_goals first
    | (rw [f2 (by assumption)]; exact RetN.all (Res.err _ _))
    | (rw [f3 (by assumption) (by omega)]; exact RetN.all (Res.err _ _))
    | skip
  all_goals
    obtain ⟨hs, g1⟩ := hok1 (by assumption)
    have k1 : okR n1 l1 m1 := by assumption
    have z1 := okR.sz k1
    obtain ⟨N, hN⟩ : ∃ N : Nat, n = N := ⟨n.toNat, by omega⟩
    obtain ⟨P, hP⟩ : ∃ P : Nat, p = P := ⟨p.toNat, by omega⟩
    rw [f4 k1 (by omega), show n.toNat = N by omega, show p.toNat = P by omega]
    clear f2 f3 f4 hok1
    obtain ⟨q, hq⟩ : ∃ q, q = ratOf n1 l1 m1 := ⟨_, rfl⟩
    rw [← hq] at hs g1 z1
    rw [← hq]
    have hn2 : 2 ≤ N := by omega
    have hn8 : N ≤ 8 := by omega
    have hp8 : P ≤ 256 := by omega
    have i1 := g1.num
    have i2 := g1.den
    have t1 := z1.num
    have t2 := z1.den
    have d0 := q.den_nz
    have hKb : P * N ≤ 256 * 8 := Nat.mul_le_mul hp8 hn8
    have E1 : sg q = true → N % 2 = 0 → (if sg q = true ∧ N % 2 = 0 then ((0, 5) : Rat × Int) else outR (rootQ q N P up)) = (0, 5) := fun a b => if_pos ⟨a, b⟩
    have E2 : ¬ (sg q = true ∧ N % 2 = 0) → (up = sg q ∨ radE q N (P * N)) → (if sg q = true ∧ N % 2 = 0 then ((0, 5) : Rat × Int) else outR (rootQ q N P up)) = outR (mkQ (sg q) (rt (radW q (P * N)) N) (2 ^ P)) := fun a b => by rw [if_neg a]; unfold rootQ; rw [if_pos b, Nat.add_zero]
    have E3 : ¬ (sg q = true ∧ N % 2 = 0) → ¬ (up = sg q ∨ radE q N (P * N)) → (if sg q = true ∧ N % 2 = 0 then ((0, 5) : Rat × Int) else outR (rootQ q N P up)) = outR (mkQ (sg q) (rt (radW q (P * N)) N + 1) (2 ^ P)) := fun a b => by rw [if_neg a]; unfold rootQ; rw [if_neg b]
    obtain ⟨V, hV⟩ : ∃ V, V = (if sg q = true ∧ N % 2 = 0 then ((0, 5) : Rat × Int) else outR (rootQ q N P up)) := ⟨_, rfl⟩
    rw [← hV] at E1 E2 E3
    rw [← hV]
    unfold radE at E2 E3
    obtain ⟨K, hK⟩ : ∃ K, K = P * N := ⟨_, rfl⟩
    have hKi : p * n = (K : Int) := by rw [hP, hN, hK]; exact (Int.natCast_mul P N).symm
    rw [← hK] at hKb E2 E3
    obtain ⟨w1, w2⟩ := radW_ln z1 (K := K) (by omega)
    have hWd : radW q K = nu q * 2 ^ K / q.den := rfl
    have w3 := ln_le_of_le (Nat.le_of_lt (Nat.mod_lt (nu q * 2 ^ K) (Nat.pos_of_ne_zero d0)))
    obtain ⟨M, hM⟩ : ∃ M, M = nu q * 2 ^ K := ⟨_, rfl⟩
    rw [← hM] at w2 w3 hWd E2 E3
    obtain ⟨R0, hR0⟩ : ∃ R, R = M % q.den := ⟨_, rfl⟩
    rw [← hR0] at w3 E2 E3
    obtain ⟨W0, hW0⟩ : ∃ W, W = radW q K := ⟨_, rfl⟩
    rw [← hW0] at w1 hWd E2 E3
    have w4 := ln_le_of_le (rt_self W0 (n := N) (by omega))
    obtain ⟨X, hX⟩ : ∃ X, X = rt W0 N := ⟨_, rfl⟩
    rw [← hX] at w4 E2 E3
    have w5 := ln_add two_le_B X 1
    have w6 := ln_one 4294967296 two_le_B
    have w7 := ln_two_pow P
    have z3 := ln_mk (s := sg q) (X := X) (P := P) (k := 2114) (by omega) hp8
    have z4 := ln_mk (s := sg q) (X := X + 1) (P := P) (k := 2115) (by omega) hp8
    have hD := two_pow_ne P
    obtain ⟨D0, hD0⟩ : ∃ D, D = 2 ^ P := ⟨_, rfl⟩
    rw [← hD0] at E2 E3 w7 z3 z4 hD
    obtain ⟨r0, hr0⟩ : ∃ r, r = mkQ (sg q) X D0 := ⟨_, rfl⟩
    rw [← hr0] at E2 z3
    obtain ⟨r1, hr1⟩ : ∃ r, r = mkQ (sg q) (X + 1) D0 := ⟨_, rfl⟩
    rw [← hr1] at E3 z4
    rw [← hs] at E1 E2 E3 hr0 hr1
    replace z3 := z3.mono (show 2114 + 258 ≤ 1073741824 by decide)
    replace z4 := z4.mono (show 2115 + 258 ≤ 1073741824 by decide)
    clear hV hq hK hs
  all_goals (repeat' first
     | (show SeqN _ _ _ _ _ _ _; first
       | (refine SeqN.go ?_; conv => whnf))
     | (show RemN _ _ _; first
       | (refine RemN.nn (by omega) (by omega) ?_; conv => whnf))
     | (show WrapN _ _ _; first
       | (refine WrapN.i64v (K : Int) hKi (by omega) (by omega) ?_; conv => whnf))
     | (show CallN _ _ _ _ _ _; first
       | (refine CallN.fn rfl (Small_ct _ 1 (by omega)) (fun v h' hl hr => ?_); obtain ⟨s', rfl, hs'⟩ := hr; conv => whnf)
       | (refine CallN.quiet rfl (Zero_ct _ _ _ (by (iterate 30 (try first | assumption | refine Ws.mono ?_ (by assumption))); first | done | assumption) (by omega)) ?_; conv => whnf)
       | (refine CallN.fn rfl (Shl_i _ _ (nu q) _ K (by omega) (by assumption) (by omega) (by omega)) (fun v h' hl hr => ?_); rw [← hM] at hr; obtain ⟨s', rfl, hs'⟩ := hr; conv => whnf)
       | (refine CallN.fn rfl (Shl_i _ _ 1 _ P hP (by assumption) (by omega) (by omega)) (fun v h' hl hr => ?_); rw [Nat.one_mul, ← hD0] at hr; obtain ⟨s', rfl, hs'⟩ := hr; conv => whnf)
       | (refine CallN.fn rfl (Div_ct _ _ _ M q.den (by assumption) (by (iterate 30 (try first | assumption | refine IsNat.mono ?_ (by assumption))); first | done | assumption) (by omega) (by omega) d0) (fun v h' hl hr => ?_); rw [← hWd, ← hR0] at hr; obtain ⟨q', r', rfl, hq', hr'⟩ := hr; conv => whnf)
       | (refine CallN.fn rfl (Root_i _ _ W0 n N hN (by assumption) (by omega) hn2 hn8) (fun v h' hl hr => ?_); rw [← hX] at hr; obtain ⟨s', rfl, hs'⟩ := hr; conv => whnf)
       | (refine CallN.fn rfl (Add_ct _ _ _ X 1 (by (iterate 30 (try first | assumption | refine IsNat.mono ?_ (by assumption))); first | done | assumption) (by assumption) (by omega) (by omega)) (fun v h' hl hr => ?_); obtain ⟨s', rfl, hs'⟩ := hr; conv => whnf)
       | (refine CallN.fn rfl (Reduce_ct _ (by (iterate 30 (try first | assumption | refine Tb.mono ?_ (by assumption))); first | done | assumption) _ _ _ X D0 (by (iterate 30 (try first | assumption | refine IsNat.mono ?_ (by assumption))); first | done | assumption) (by assumption) (by omega) (by omega) hD) (fun v h' hl hr => ?_); rw [← hr0] at hr; obtain ⟨a', b', rfl, hq'⟩ := hr; conv => whnf)
       | (refine CallN.fn rfl (Reduce_ct _ (by (iterate 30 (try first | assumption | refine Tb.mono ?_ (by assumption))); first | done | assumption) _ _ _ (X + 1) D0 (by (iterate 30 (try first | assumption | refine IsNat.mono ?_ (by assumption))); first | done | assumption) (by assumption) (by omega) (by omega) hD) (fun v h' hl hr => ?_); rw [← hr1] at hr; obtain ⟨a', b', rfl, hq'⟩ := hr; conv => whnf)
       | (refine CallN.fn rfl (Give_ct _ _ _ r0 (by assumption) z3) (fun v h' hl hr => ?_); obtain ⟨e1, e2, rfl, hq'⟩ := hr; conv => whnf)
       | (refine CallN.fn rfl (Give_ct _ _ _ r1 (by assumption) z4) (fun v h' hl hr => ?_); obtain ⟨e1, e2, rfl, hq'⟩ := hr; conv => whnf))
     | ((first | refine opsI.step ?_ | refine codeI.step ?_); conv => whnf)
     | (refine ⟨fun _ => HasLe.of_le (by assumption), ?_⟩; conv => whnf)
     | (refine ⟨fun hst => (by cases (show true = false from hst)), ?_⟩; conv => whnf)
     | (show cnd _ _ _; first
       | (refine cnd_eq (fun _ => ?_) (fun _ => ?_) <;> first | (exfalso; omega) | (conv => whnf))
       | (refine cnd_not ?_)
       | (refine cnd_beq (fun _ => ?_) (fun hne => ?_) <;> first | exact absurd rfl hne | (conv => whnf))
       | (refine cnd_dec (fun _ => ?_) (fun _ => ?_) <;> first | (exfalso; omega) | (conv => whnf)))
     | (show LdN _ _ _ _ _; first
       | (refine LdN.own 1 rfl rfl ?_; conv => whnf))
     | (show Ld _ _ _ _; first
       | (refine Ld.own 0 rfl rfl ?_; conv => whnf))
     | (show Sto _ _ _ _; first
       | (refine Sto.lit 1 rfl rfl rfl ?_; conv => whnf))
     | (show DrawN _ _ _ _ _ _; first
       | (refine DrawN.run (by decide +kernel) ?_; conv => whnf)))
  all_goals first
    | (rw [E1 rfl (by omega)]; exact RetN.all (Res.err _ _))
    | (rw [E2 (fun hh => by first | (have := hh.2; omega) | (have := hh.1; cases this)) (by first | exact .inl (by assumption) | exact .inr ⟨by assumption, by assumption⟩)]; exact RetN.all ⟨_, _, rfl, (by assumption)⟩)
    | (rw [E3 (fun hh => by first | (have := hh.2; omega) | (have := hh.1; cases this)) (fun hh => hh.elim (fun a => absurd a (by assumption)) (fun b => by first | exact absurd b.1 (by assumption) | exact absurd b.2 (by assumption)))]; exact RetN.all ⟨_, _, rfl, (by assumption)⟩)
theorem NRootDown_ct (h : Heap) (tb : Tb h) (n1 : Bool) (a1 b1 : Sl) (l1 m1 : List Nat) (hv1 : IsVal h a1 b1 l1 m1) (n p : Int) (lo : -9223372036854775808 ≤ n) (hi : n ≤ 9223372036854775807) (lo' : -9223372036854775808 ≤ p) (hi' : p ≤ 9223372036854775807) :
    Fn0 T F.number_RootDown [.agg #[.bool n1, a1.val, b1.val], .int .i64 n, .int .i64 p] h fun v h' => Res h' v (specGR false n1 l1 m1 n p) := by
  refine fn0_of_codeI ok D.number_RootDown rfl ?_
  conv => whnf
  repeat ((first | refine opsI.step ?_ | refine codeI.step ?_); conv => whnf)
  repeat' first
   | (show CallN _ _ _ _ _ _; first
     | (refine CallN.fn rfl (Nroot_ct _ (by assumption) _ _ _ l1 m1 (by assumption) n p lo hi lo' hi' false) (fun v h' hl hr => ?_); obtain ⟨e1, e2, rfl, hq'⟩ := hr; conv => whnf))
   | ((first | refine opsI.step ?_ | refine codeI.step ?_); conv => whnf)
   | (intro (_ : Nat); conv => whnf)
   | (show LdN _ _ _ _ _; first
     | (refine LdN.own 0 rfl rfl ?_; conv => whnf)
     | (refine LdN.own 1 rfl rfl ?_; conv => whnf))
   | (show Sto _ _ _ _; first
     | (refine Sto.lit 0 rfl rfl rfl ?_; conv => whnf))
  exact RetN.all ⟨_, _, rfl, (by assumption)⟩
theorem NRootUp_ct (h : Heap) (tb : Tb h) (n1 : Bool) (a1 b1 : Sl) (l1 m1 : List Nat) (hv1 : IsVal h a1 b1 l1 m1) (n p : Int) (lo : -9223372036854775808 ≤ n) (hi : n ≤ 9223372036854775807) (lo' : -9223372036854775808 ≤ p) (hi' : p ≤ 9223372036854775807) :
    Fn0 T F.number_RootUp [.agg #[.bool n1, a1.val, b1.val], .int .i64 n, .int .i64 p] h fun v h' => Res h' v (specGR true n1 l1 m1 n p) := by
  refine fn0_of_codeI ok D.number_RootUp rfl ?_
  conv => whnf
  repeat ((first | refine opsI.step ?_ | refine codeI.step ?_); conv => whnf)
  repeat' first
   | (show CallN _ _ _ _ _ _; first
     | (refine CallN.fn rfl (Nroot_ct _ (by assumption) _ _ _ l1 m1 (by assumption) n p lo hi lo' hi' true) (fun v h' hl hr => ?_); obtain ⟨e1, e2, rfl, hq'⟩ := hr; conv => whnf))
   | ((first | refine opsI.step ?_ | refine codeI.step ?_); conv => whnf)
   | (intro (_ : Nat); conv => whnf)
   | (show LdN _ _ _ _ _; first
     | (refine LdN.own 0 rfl rfl ?_; conv => whnf)
     | (refine LdN.own 1 rfl rfl ?_; conv => whnf))
   | (show Sto _ _ _ _; first
     | (refine Sto.lit 0 rfl rfl rfl ?_; conv => whnf))
  exact RetN.all ⟨_, _, rfl, (by assumption)⟩

set_option maxRecDepth 20000 in
set_option maxHeartbeats 1000000 in
theorem Power_big (h : Heap) (a b : Sl) (q : Rat) (P : Nat) (n : Int) (hn : n = P) (hP : P ≤ 32) (hq : IsQ h a b q) (hs : Sr 65536 q) :
    Fn0 T F.ref01_Power [.agg #[.bool (sg q), a.val, b.val], .int .i64 n] h fun v h' => ∃ s t : Sl, v = .agg #[.bool (sg (q ^ P)), s.val, t.val] ∧ IsQ h' s t (q ^ P) := by
  have i1 := hq.num
  have i2 := hq.den
  have l1 := hs.num
  have l2 := hs.den
  have d0 := q.den_nz
  have e1 := sg_pow q P
  have e2 := nu_pow q P
  have e3 := Rat.den_pow q P
  have b1 : P * ln 65536 (nu q) ≤ 8589934590 := Nat.le_trans (Nat.mul_le_mul hP l1) (by decide)
  have b2 : P * ln 65536 q.den ≤ 8589934590 := Nat.le_trans (Nat.mul_le_mul hP l2) (by decide)
  refine fn0_of_codeI ok D.ref01_Power rfl ?_
  conv => whnf
  repeat ((first | refine opsI.step ?_ | refine codeI.step ?_); conv => whnf)
  repeat' first
   | (show RemN _ _ _; first
     | (refine RemN.nn (by omega) (by omega) ?_; conv => whnf))
   | (show CallN _ _ _ _ _ _; first
     | (refine CallN.quiet rfl (den_q _ _ _ _ _ (by (iterate 30 (try first | assumption | refine Ws.mono ?_ (by assumption))); first | done | assumption) (by first | assumption | omega) (by omega)) ?_; conv => whnf)
     | (refine CallN.fn rfl (NatPow_i _ _ (nu q) n P hn (by (iterate 30 (try first | assumption | refine IsRef.mono ?_ (by assumption))); first | done | assumption) b1 (by omega) (by omega)) (fun v h' hl hr => ?_); rw [← e2] at hr; obtain ⟨s', rfl, hs'⟩ := hr; conv => whnf)
     | (refine CallN.fn rfl (NatPow_i _ _ q.den n P hn (by (iterate 30 (try first | assumption | refine IsRef.mono ?_ (by assumption))); first | done | assumption) b2 (by omega) (by omega)) (fun v h' hl hr => ?_); rw [← e3] at hr; obtain ⟨t', rfl, ht'⟩ := hr; conv => whnf))
   | ((first | refine opsI.step ?_ | refine codeI.step ?_); conv => whnf)
   | (refine ⟨fun _ => HasLe.of_le (Heap.le_refl _), ?_⟩; conv => whnf)
   | (refine ⟨fun _ => HasLe.of_le (by assumption), ?_⟩; conv => whnf)
   | (refine ⟨fun hst => (by cases (show true = false from hst)), ?_⟩; conv => whnf)
   | (intro (_ : Nat); conv => whnf)
   | (show cnd _ _ _; first
     | (refine cnd_lt (fun _ => ?_) (fun _ => ?_) <;> first | (exfalso; omega) | (conv => whnf))
     | (refine cnd_bool (fun _ => ?_) (fun _ => ?_) <;> (conv => whnf)))
   | (show LdN _ _ _ _ _; first
     | (refine LdN.own 0 rfl rfl ?_; conv => whnf)
     | (refine LdN.own 1 rfl rfl ?_; conv => whnf))
   | (show Ld _ _ _ _; first
     | (refine Ld.own 1 rfl rfl ?_; conv => whnf))
   | (show Sto _ _ _ _; first
     | (refine Sto.lit 0 rfl rfl rfl ?_; conv => whnf))
   | (show DrawN _ _ _ _ _ _; first
     | (refine DrawN.run (by decide +kernel) ?_; conv => whnf))
  · have he : eq (n % 2) 1 = decide (P % 2 = 1) := by unfold eq; rw [Bool.eq_iff_iff, decide_eq_true_iff, decide_eq_true_iff]; omega
    exact RetN.all ⟨s', t', by rw [e1, he]; simp_all, ⟨(by (iterate 30 (try first | assumption | refine IsRef.mono ?_ (by assumption))); first | done | assumption), (by assumption)⟩⟩
  · exact RetN.all ⟨s', t', by rw [e1]; simp_all, ⟨(by (iterate 30 (try first | assumption | refine IsRef.mono ?_ (by assumption))); first | done | assumption), (by assumption)⟩⟩
theorem sr_pow_big {q : Rat} (s : Sr 8000 q) {n : Nat} (hn : n ≤ 8) : Sr 65536 (q ^ n) := by
  have h1 := ln_pow two_le_b (nu q) n
  have h2 := ln_pow two_le_b q.den n
  have b1 : n * ln 65536 (nu q) ≤ 8 * 8000 := Nat.mul_le_mul hn s.num
  have b2 : n * ln 65536 q.den ≤ 8 * 8000 := Nat.mul_le_mul hn s.den
  refine ⟨?_, ?_⟩
  · rw [nu_pow]; omega
  · rw [Rat.den_pow]; omega
theorem sr_rootQ {q : Rat} (hs : Sz 64 q) {N P : Nat} (hN1 : 1 ≤ N) (hN : N ≤ 8) (hP : P ≤ 256) (up : Bool) : Sr 8000 (rootQ q N P up) := by
  have hKb : P * N ≤ 256 * 8 := Nat.mul_le_mul hP hN
  obtain ⟨w1, -⟩ := radW_ln hs (K := P * N) hKb
  have w4 := ln_le_of_le (rt_self (radW q (P * N)) (n := N) hN1)
  have w5 := ln_add two_le_B (rt (radW q (P * N)) N) 1
  have w6 := ln_one 4294967296 two_le_B
  unfold rootQ
  split
  · exact (Sr.of (ln_mk (k := 2113) (by rw [Nat.add_zero]; omega) hP)).mono (by decide)
  · exact (Sr.of (ln_mk (k := 2114) (by omega) hP)).mono (by decide)

set_option maxRecDepth 20000 in
set_option maxHeartbeats 1000000 in
theorem Below_nn (h : Heap) (a b : Sl) (q : Rat) (n p : Int) (N P : Nat) (hN : n = N) (hP : p = P) (hn2 : 2 ≤ N) (hn8 : N ≤ 8) (hp8 : P ≤ 256) (hq : IsQ h a b q) (hs : Sz 64 q) (h0 : sg q = false) :
    Fn0 T F.ref01_RootBelow [.agg #[.bool (sg q), a.val, b.val], .int .i64 n, .int .i64 p] h fun v h' => ∃ s t : Sl, v = .agg #[.bool (sg (rootQ q N P false)), s.val, t.val] ∧ IsQ h' s t (rootQ q N P false) := by
  have i1 := hq.num
  have i2 := hq.den
  have t1 := hs.num
  have t2 := hs.den
  have d0 := q.den_nz
  have u2 := lb_le q.den
  have u1 := lb_le (nu q)
  have hKb : P * N ≤ 256 * 8 := Nat.mul_le_mul hp8 hn8
  have e0 := below_eq (N := N) (p := P) h0
  obtain ⟨K, hK⟩ : ∃ K, K = P * N := ⟨_, rfl⟩
  have hKi : n * p = (K : Int) := by rw [hP, hN, hK, Nat.mul_comm]; exact (Int.natCast_mul N P).symm
  rw [← hK] at hKb e0
  obtain ⟨w1, w2⟩ := radW_ln hs (K := K) (by omega)
  have hWd : radW q K = nu q * 2 ^ K / q.den := rfl
  have v2 := lb_le (nu q * 2 ^ K)
  have v1 := lb_le (radW q K)
  obtain ⟨M, hM⟩ : ∃ M, M = nu q * 2 ^ K := ⟨_, rfl⟩
  rw [← hM] at w2 hWd v2
  obtain ⟨W0, hW0⟩ : ∃ W, W = radW q K := ⟨_, rfl⟩
  rw [← hW0] at w1 hWd v1 e0
  have w4 := ln_mono two_le_b (rt_self W0 (n := N) (by omega))
  have hle := mkQ_le false (m := rt W0 N) (n := 1) (by decide)
  obtain ⟨X, hX⟩ : ∃ X, X = rt W0 N := ⟨_, rfl⟩
  rw [← hX] at w4 e0 hle
  have w6 := ln_one 65536 two_le_b
  obtain ⟨r0, hr0⟩ : ∃ r, r = mkQ false X 1 := ⟨_, rfl⟩
  rw [← hr0] at e0 hle
  have sr : Sr 1073741824 r0 := ⟨Nat.le_trans (ln_mono two_le_b hle.1) (by omega), Nat.le_trans (ln_mono two_le_b hle.2) (by omega)⟩
  rw [show (-(P : Int)) = -p by omega] at e0
  have c1 := fun (h : Heap) (a b : Sl) (w : IsQ h a b r0) => Scaled_ct h a b r0 (-p) w sr (by omega) (by omega)
  rw [← e0] at c1
  obtain ⟨y, hy⟩ : ∃ y, y = rootQ q N P false := ⟨_, rfl⟩
  rw [← hy] at c1
  rw [← hy, h0]
  clear e0 hy hK
  refine fn0_of_codeI ok D.ref01_RootBelow rfl ?_
  conv => whnf
  repeat ((first | refine opsI.step ?_ | refine codeI.step ?_); conv => whnf)
  repeat' first
   | (show CallN _ _ _ _ _ _; first
     | (refine CallN.quiet rfl (den_q _ _ _ _ _ (by (iterate 30 (try first | assumption | refine Ws.mono ?_ (by assumption))); first | done | assumption) (by first | assumption | omega) (by omega)) ?_; conv => whnf)
     | (refine CallN.fn rfl (NatOf_ct _ 1 (by omega)) (fun v h' hl hr => ?_); obtain ⟨s', rfl, hs'⟩ := hr; conv => whnf)
     | (refine CallN.fn rfl (NatShl_i _ _ (nu q) _ K (by omega) (by assumption) (by omega) (by omega)) (fun v h' hl hr => ?_); rw [← hM] at hr; obtain ⟨s', rfl, hs'⟩ := hr; conv => whnf)
     | (refine CallN.fn rfl (NatDiv_ct _ _ _ M q.den (by assumption) (by (iterate 30 (try first | assumption | refine IsRef.mono ?_ (by assumption))); first | done | assumption) (by omega) (by omega) d0) (fun v h' hl hr => ?_); rw [← hWd] at hr; obtain ⟨q', r', rfl, hq', hr'⟩ := hr; conv => whnf)
     | (refine CallN.fn rfl (NatRoot_i _ _ W0 n N hN (by assumption) (by omega) hn2 hn8) (fun v h' hl hr => ?_); rw [← hX] at hr; obtain ⟨s', rfl, hs'⟩ := hr; conv => whnf)
     | (refine CallN.fn rfl (Make_ct _ _ _ _ X 1 (by (iterate 30 (try first | assumption | refine IsRef.mono ?_ (by assumption))); first | done | assumption) (by assumption) (by omega) (by omega)) (fun v h' hl hr => ?_); rw [← hr0] at hr; obtain ⟨e1, e2, rfl, hq'⟩ := hr; conv => whnf)
     | (refine CallN.fn rfl (c1 _ _ _ (by assumption)) (fun v h' hl hr => ?_); obtain ⟨e1, e2, rfl, hq'⟩ := hr; conv => whnf))
   | (show WrapN _ _ _; first
     | (refine WrapN.i64v (K : Int) hKi (by omega) (by omega) ?_; conv => whnf)
     | (refine WrapN.i64v (-p) (by omega) (by omega) (by omega) ?_; conv => whnf))
   | ((first | refine opsI.step ?_ | refine codeI.step ?_); conv => whnf)
   | (refine ⟨fun _ => HasLe.of_le (Heap.le_refl _), ?_⟩; conv => whnf)
   | (refine ⟨fun _ => HasLe.of_le (by assumption), ?_⟩; conv => whnf)
   | (intro (_ : Nat); conv => whnf)
   | (show LdN _ _ _ _ _; first
     | (refine LdN.own 0 rfl rfl ?_; conv => whnf)
     | (refine LdN.own 1 rfl rfl ?_; conv => whnf))
   | (show Ld _ _ _ _; first
     | (refine Ld.own 1 rfl rfl ?_; conv => whnf))
   | (show Sto _ _ _ _; first
     | (refine Sto.lit 0 rfl rfl rfl ?_; conv => whnf))
   | (show DrawN _ _ _ _ _ _; first
     | (refine DrawN.run (by decide +kernel) ?_; conv => whnf))
  all_goals exact RetN.all ⟨_, _, rfl, (by assumption)⟩
set_option maxRecDepth 20000 in
set_option maxHeartbeats 1000000 in
theorem Above_nn (h : Heap) (a b : Sl) (q : Rat) (n p : Int) (N P : Nat) (hN : n = N) (hP : p = P) (hn2 : 2 ≤ N) (hn8 : N ≤ 8) (hp8 : P ≤ 256) (hq : IsQ h a b q) (hs : Sz 64 q) (h0 : sg q = false) :
    Fn0 T F.ref01_RootAbove [.agg #[.bool (sg q), a.val, b.val], .int .i64 n, .int .i64 p] h fun v h' => ∃ s t : Sl, v = .agg #[.bool (sg (rootQ q N P true)), s.val, t.val] ∧ IsQ h' s t (rootQ q N P true) := by
  have e0 := above_eq (N := N) (p := P) (by omega) h0
  have sq : Sr 65536 q := (Sr.of hs).mono (by decide)
  have sy := sr_rootQ hs (N := N) (P := P) (by omega) hn8 hp8 false
  have c1 := fun (h : Heap) (w : IsQ h a b q) => Below_nn h a b q n p N P hN hP hn2 hn8 hp8 w hs h0
  have s1 : Sr 1 ((1 : Int) : Rat) := by
    refine ⟨?_, ?_⟩
    · rw [nu_int]; exact (ln_le_iff two_le_b (k := 1)).2 (by decide)
    · rw [den_int, ln_one _ two_le_b]; exact Nat.le_refl _
  have s2 : Sr 1073741824 ((1 : Int) : Rat) := s1.mono (by decide)
  have s3 : Sr 1073741824 (scaleQ ((1 : Int) : Rat) (-p)) := (s1.scale (-p)).mono (by omega)
  rw [show (-(P : Int)) = -p by omega] at e0
  have c3 := fun (h : Heap) (a b : Sl) (w : IsQ h a b ((1 : Int) : Rat)) => Scaled_ct h a b ((1 : Int) : Rat) (-p) w s2 (by omega) (by omega)
  have c4 := fun (h : Heap) => Int_ct h 1 (by decide) (by decide)
  obtain ⟨u, hu⟩ : ∃ u, u = ((1 : Int) : Rat) := ⟨_, rfl⟩
  rw [← hu] at c3 c4 s3 e0
  obtain ⟨t, ht⟩ : ∃ t, t = scaleQ u (-p) := ⟨_, rfl⟩
  rw [← ht] at c3 s3 e0
  obtain ⟨y, hy⟩ : ∃ y, y = rootQ q N P false := ⟨_, rfl⟩
  rw [← hy] at c1 sy e0
  have sz := sr_pow_big sy (n := N) hn8
  have sy2 : Sr 65536 y := sy.mono (by decide)
  have sy3 : Sr 1073741824 y := sy.mono (by decide)
  have c5 := fun (h : Heap) (a b : Sl) (w : IsQ h a b y) => Power_big h a b y N n hN (by omega) w sy2
  obtain ⟨z, hz⟩ : ∃ z, z = y ^ N := ⟨_, rfl⟩
  rw [← hz] at c5 sz e0
  have c6 := fun (h : Heap) (c d : Sl) (w : IsQ h c d z) (w' : IsQ h a b q) => RCmp_ct h c d a b z q w w' sz sq
  have E1 : cmpQ z q = 0 → rootQ q N P true = y := fun h => by rw [e0, if_pos (cmpQ_eq.1 h)]
  have E2 : cmpQ z q ≠ 0 → rootQ q N P true = y + t := fun h => by rw [e0, if_neg (fun hh => h (cmpQ_eq.2 hh))]
  clear e0 hz hy ht hu s1 s2
  rw [h0] at c1 c6
  rw [h0]
  refine fn0_of_codeI ok D.ref01_RootAbove rfl ?_
  conv => whnf
  repeat ((first | refine opsI.step ?_ | refine codeI.step ?_); conv => whnf)
  repeat' first
   | (show WrapN _ _ _; first
     | (refine WrapN.i64v (-p) (by omega) (by omega) (by omega) ?_; conv => whnf))
   | (show CallN _ _ _ _ _ _; first
     | (refine CallN.fn rfl (c1 _ (by assumption)) (fun v h' hl hr => ?_); obtain ⟨e1, e2, rfl, hq'⟩ := hr; conv => whnf)
     | (refine CallN.fn rfl (c5 _ _ _ (by assumption)) (fun v h' hl hr => ?_); obtain ⟨e1, e2, rfl, hq'⟩ := hr; conv => whnf)
     | (refine CallN.fn rfl (c6 _ _ _ (by assumption) (by (iterate 30 (try first | assumption | refine IsQ.mono ?_ (by assumption))); first | done | assumption)) (fun v h' hl hr => ?_); obtain rfl := hr; conv => whnf)
     | (refine CallN.fn rfl (c4 _) (fun v h' hl hr => ?_); obtain ⟨e1, e2, rfl, hq'⟩ := hr; conv => whnf)
     | (refine CallN.fn rfl (c3 _ _ _ (by assumption)) (fun v h' hl hr => ?_); obtain ⟨e1, e2, rfl, hq'⟩ := hr; conv => whnf)
     | (refine CallN.fn rfl (Sum_ct _ _ _ _ _ y t (by (iterate 30 (try first | assumption | refine IsQ.mono ?_ (by assumption))); first | done | assumption) (by assumption) sy3 s3) (fun v h' hl hr => ?_); obtain ⟨e1, e2, rfl, hq'⟩ := hr; conv => whnf))
   | ((first | refine opsI.step ?_ | refine codeI.step ?_); conv => whnf)
   | (refine ⟨fun _ => HasLe.of_le (by assumption), ?_⟩; conv => whnf)
   | (refine ⟨fun hst => (by cases (show true = false from hst)), ?_⟩; conv => whnf)
   | (intro (_ : Nat); conv => whnf)
   | (show cnd _ _ _; first
     | (refine cnd_eq (fun _ => ?_) (fun _ => ?_) <;> first | (exfalso; omega) | (conv => whnf)))
   | (show LdN _ _ _ _ _; first
     | (refine LdN.own 0 rfl rfl ?_; conv => whnf)
     | (refine LdN.own 1 rfl rfl ?_; conv => whnf)
     | (refine LdN.own 2 rfl rfl ?_; conv => whnf))
   | (show Ld _ _ _ _; first
     | (refine Ld.own 1 rfl rfl ?_; conv => whnf))
   | (show Sto _ _ _ _; first
     | (refine Sto.lit 0 rfl rfl rfl ?_; conv => whnf)
     | (refine Sto.lit 1 rfl rfl rfl ?_; conv => whnf))
   | (show DrawN _ _ _ _ _ _; first
     | (refine DrawN.run (by decide +kernel) ?_; conv => whnf))
  all_goals first
    | (rw [E1 (by assumption)]; exact RetN.all ⟨_, _, rfl, (by (iterate 30 (try first | assumption | refine IsQ.mono ?_ (by assumption))); first | done | assumption)⟩)
    | (rw [E2 (by assumption)]; exact RetN.all ⟨_, _, rfl, (by assumption)⟩)
end Go.Proofs.YteblflmnhegmjaaDoor
