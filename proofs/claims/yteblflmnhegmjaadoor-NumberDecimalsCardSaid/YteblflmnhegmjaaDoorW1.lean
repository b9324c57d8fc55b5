/- Contracts of package word's functions on natural numbers, first part: of lists, tests, sums. -/
import Derived.Test.YteblflmnhegmjaaDoorRep
import Derived.Test.YteblflmnhegmjaaDoorTab
set_option linter.unusedVariables false
set_option linter.unusedSimpArgs false
namespace Go.Proofs.YteblflmnhegmjaaDoor
open Go Go.Vc Go.Dig

theorem two_le_B : 2 ≤ 4294967296 := by decide

theorem Of_ct (h : Heap) (s : Sl) (l : List Nat) (hw : Ws .u32 h s l) (hl : ∀ x ∈ l, x < 4294967296) (hm : l.length ≤ 4398046511104) :
    Fn0 T F.word_Of [s.val] h fun v h' => ∃ s' : Sl, v = s'.val ∧ IsNat h' s' (evl 4294967296 l) := by
  refine fn0_of_codeI ok D.word_Of rfl ?_
  conv => whnf
  repeat ((first | refine opsI.step ?_ | refine codeI.step ?_); conv => whnf)
  have hlen := hw.len
  have hcap := hw.cap
  refine LoopN.of (fun n ρ h' L => L = [] ∧ h' = h ∧ rd ρ 0 = .slice s.a n s.c ∧ n ≤ l.length ∧ ∀ i, n ≤ i → i < l.length → l.getD i 0 = 0) s.l ⟨rfl, rfl, rfl, by omega, fun i h1 h2 => by omega⟩ ?_
  conv => whnf
  repeat intro _
  rename_i n h1 L1 hI
  obtain ⟨rfl, rfl, e0, hk, hz⟩ := hI
  conv at e0 => lhs; whnf
  subst e0
  have fin : (n = 0 ∨ l.getD (n - 1) 0 ≠ 0) → IsNat h1 ⟨s.a, n, s.c⟩ (evl 4294967296 l) := fun he => by
    unfold IsNat
    rw [dg_take two_le_B hk hl hz he]
    exact hw.take hk
  have hlast : ∀ j : Nat, j < n → (l.take n).getD j 0 = l.getD j 0 := fun j hj => by simp [List.getD_eq_getElem?_getD, List.getElem?_take, hj]
  have hl1 := hlast (n - 1)
  conv => whnf
  repeat ((first | refine opsI.step ?_ | refine codeI.step ?_); conv => whnf)
  repeat' first
   | (show Idx _ _ _ _ _; first
     | (refine Idx.ws (hw.take hk) (n - 1) (by omega) (by simp; omega) (fun ad hv => ?_); conv => whnf))
   | (show Ld _ _ _ _; first
     | (refine Ld.of (hv _) ?_; conv => whnf))
   | (show CutA _ _ _ _ _ _; first
     | (refine CutA.front (s := ⟨s.a, n, s.c⟩) (n - 1) (by omega) (by show n - 1 ≤ s.c; omega) ?_; conv => whnf))
   | ((first | refine opsI.step ?_ | refine codeI.step ?_); conv => whnf)
   | (show WrapN _ _ _; first
     | (refine WrapN.i64 (by omega) (by omega) ?_; conv => whnf))
   | (show cnd _ _ _; first
     | (refine cnd_lt (fun _ => ?_) (fun _ => ?_) <;> first | (exfalso; omega) | (conv => whnf))
     | (refine cnd_eq (fun _ => ?_) (fun _ => ?_) <;> first | (exfalso; omega) | (conv => whnf)))
  · refine ⟨rfl, n - 1, by omega, rfl, rfl, rfl, by omega, fun i h1 h2 => ?_⟩
    by_cases hi : n ≤ i
    · exact hz i hi h2
    · obtain rfl : i = n - 1 := by omega
      omega
  · exact RetN.all ⟨⟨s.a, n, s.c⟩, rfl, fin (.inr (by omega))⟩
  · exact RetN.all ⟨⟨s.a, n, s.c⟩, rfl, fin (.inl (by omega))⟩

theorem Zero_ct (h : Heap) (s : Sl) (n : Nat) (hs : IsNat h s n) (hb : ln 4294967296 n ≤ 1099511627776) : Fn0 T F.word_Nat_Zero [s.val] h fun v h' => h' = h ∧ v = .bool (dec (n = 0)) := by
  have hl := hs.len
  have hz := ln_eq_zero two_le_B (n := n)
  refine fn0_of_codeI ok D.word_Nat_Zero rfl ?_
  conv => whnf
  repeat ((first | refine opsI.step ?_ | refine codeI.step ?_); conv => whnf)
  refine RetN.all ⟨rfl, ?_⟩
  congr 1
  unfold eq dec
  apply decide_eq_decide.2
  omega

theorem Small_ct (h : Heap) (n : Nat) (hn : n < 18446744073709551616) : Fn0 T F.word_Small [.int .u64 n] h fun v h' => ∃ s' : Sl, v = s'.val ∧ IsNat h' s' n := by
  refine fn0_of_codeI ok D.word_Small rfl ?_
  conv => whnf
  repeat ((first | refine opsI.step ?_ | refine codeI.step ?_); conv => whnf)
  repeat' first
   | (show WrapN _ _ _; first
     | (refine WrapN.u32m ?_; conv => whnf))
   | (show ShrN _ _ _ _; first
     | (refine ShrN.of 32 (by decide) (by omega) ?_; conv => whnf))
   | ((first | refine opsI.step ?_ | refine codeI.step ?_); conv => whnf)
   | (intro (_ : Nat); conv => whnf)
  rename_i b
  refine CallN.keep 0 rfl rfl fun hle => ?_
  refine CallN.fn rfl (Of_ct _ ⟨some ⟨b, 0, none⟩, 2, 2⟩ [n % 4294967296, n / 4294967296 % 4294967296] (Ws.put rfl (Nat.le_refl _) ?_) ?_ ?_) (fun v h' hl hr => ?_)
  · intro i hi
    match i, hi with
    | 0, _ => simp
    | 1, _ => simp
  · intro x hx
    simp at hx
    omega
  · simp
  · obtain ⟨s', rfl, hs⟩ := hr
    conv => whnf
    repeat ((first | refine opsI.step ?_ | refine codeI.step ?_); conv => whnf)
    refine RetN.all ⟨s', rfl, ?_⟩
    have : evl 4294967296 [n % 4294967296, n / 4294967296 % 4294967296] = n := by simp only [evl_cons, evl_nil]; omega
    rwa [this] at hs

theorem One_ct (h : Heap) (s : Sl) (n : Nat) (hs : IsNat h s n) (hb : ln 4294967296 n ≤ 1099511627776) : Fn0 T F.word_Nat_One [s.val] h fun v h' => h' = h ∧ v = .bool (dec (n = 1)) := by
  have hl := hs.len
  have hn := evl_dg two_le_B n
  have hlt := dg_lt two_le_B n
  refine fn0_of_codeI ok D.word_Nat_One rfl ?_
  conv => whnf
  repeat ((first | refine opsI.step ?_ | refine codeI.step ?_); conv => whnf)
  have e1 : ∀ x, dg 4294967296 n = [x] → n = x := fun x hx => by rw [hx] at hn; simpa [evl_cons, evl_nil] using hn.symm
  have e2 : n = 1 → ln 4294967296 n = 1 := fun hx => by subst hx; exact ln_one _ two_le_B
  refine cnd_eq (fun _ => ?_) (fun _ => ?_)
  · conv => whnf
    repeat ((first | refine opsI.step ?_ | refine codeI.step ?_); conv => whnf)
    have hln : ln 4294967296 n = 1 := by omega
    obtain ⟨x, hx⟩ : ∃ x, dg 4294967296 n = [x] := List.length_eq_one_iff.1 hln
    have := e1 x hx
    repeat' first
     | (show Idx _ _ _ _ _; first
       | (refine Idx.ws hs 0 (by omega) (by rw [hx]; simp) (fun ad hv => ?_); conv => whnf))
     | (show Ld _ _ _ _; first
       | (refine Ld.of (hv _) ?_; conv => whnf))
     | ((first | refine opsI.step ?_ | refine codeI.step ?_); conv => whnf)
    all_goals
      refine RetN.all ⟨rfl, ?_⟩
      have hg : (dg 4294967296 n).getD 0 0 = x := by rw [hx]; rfl
      rw [hg]
      congr 1
      simp only [eq, dec_eq, decide_eq_decide]
      omega
  · conv => whnf
    repeat ((first | refine opsI.step ?_ | refine codeI.step ?_); conv => whnf)
    refine RetN.all ⟨rfl, ?_⟩
    congr 1
    simp only [Bool.false_eq, dec_eq, decide_eq_false_iff_not]
    intro hx
    have := e2 hx
    omega
end Go.Proofs.YteblflmnhegmjaaDoor
