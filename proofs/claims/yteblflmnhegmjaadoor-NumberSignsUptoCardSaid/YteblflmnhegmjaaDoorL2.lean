/- Contracts of the statements' own helpers, second part: None, Is, awake. -/
import Derived.Test.YteblflmnhegmjaaDoorL1
set_option linter.unusedVariables false
set_option linter.unusedSimpArgs false
namespace Go.Proofs.YteblflmnhegmjaaDoor
open Go Go.Vc Go.Dig

theorem None_ct (h : Heap) (a b : Sl) (hq : IsRat h a b 0) : Fn0 T F.law01_None [.agg #[.bool (sg 0), a.val, b.val]] h fun v h' => h' = h ∧ v = .bool true := by
  have h1 := hq.num.len
  have h2 := hq.den.len
  rw [nu_zero, ln_zero] at h1
  rw [if_pos (by rfl), ln_zero] at h2
  rw [sg_zero]
  refine fn0_of_codeI ok D.law01_None rfl ?_
  conv => whnf
  repeat ((first | refine opsI.step ?_ | refine codeI.step ?_); conv => whnf)
  repeat' first
   | ((first | refine opsI.step ?_ | refine codeI.step ?_); conv => whnf)
   | (intro (_ : Nat); conv => whnf)
   | (show cnd _ _ _; first
     | (refine cnd_eq (fun _ => ?_) (fun _ => ?_) <;> first | (exfalso; omega) | (conv => whnf)))
   | (show Ld _ _ _ _; first
     | (refine Ld.own 0 rfl rfl ?_; conv => whnf))
  all_goals exact RetN.all ⟨rfl, by rw [Vc.eq_true' (by omega)]⟩

/-- two results that are the same -/
theorem Is_ct (h : Heap) (a b c d : Sl) (q : Rat) (e : Int) (hq : IsRat h a b q) (hr : IsRat h c d q) (hs : Sz 1073741824 q) (he : e ≠ 0 → q = 0) : Fn0 T F.law01_Is [.agg #[.bool (sg q), a.val, b.val], .int .i64 e, .agg #[.bool (sg q), c.val, d.val], .int .i64 e] h fun v _ => v = .bool true := by
  refine fn0_of_codeI ok D.law01_Is rfl ?_
  by_cases h0 : e = 0
  · subst h0
    conv => whnf
    repeat ((first | refine opsI.step ?_ | refine codeI.step ?_); conv => whnf)
    repeat' first
     | (show CallN _ _ _ _ _ _; first
       | (refine CallN.fn rfl (Canonical_ct _ _ _ q (by assumption) hs) (fun v h' hl hr => ?_); obtain rfl := hr; conv => whnf)
       | (refine CallN.fn rfl (Equal_ct _ _ _ _ _ q q (by (iterate 30 (try first | assumption | refine IsRat.mono ?_ (by assumption))); first | done | assumption) (by (iterate 30 (try first | assumption | refine IsRat.mono ?_ (by assumption))); first | done | assumption) hs hs) (fun v h' hl hr => ?_); obtain rfl := hr; conv => whnf))
     | ((first | refine opsI.step ?_ | refine codeI.step ?_); conv => whnf)
     | (intro (_ : Nat); conv => whnf)
     | (show cnd _ _ _; first
       | (refine cnd_eq (fun _ => ?_) (fun _ => ?_) <;> first | (exfalso; omega) | (conv => whnf))
       | (refine cnd_not ?_))
     | (show LdN _ _ _ _ _; first
       | (refine LdN.own 0 rfl rfl ?_; conv => whnf)
       | (refine LdN.own 1 rfl rfl ?_; conv => whnf))
    all_goals exact RetN.all (by first | rfl | rw [dec_true rfl])
  · have hz := he h0
    subst hz
    conv => whnf
    repeat ((first | refine opsI.step ?_ | refine codeI.step ?_); conv => whnf)
    repeat' first
     | (show CallN _ _ _ _ _ _; first
       | (refine CallN.quiet rfl (None_ct _ _ _ (by assumption)) ?_; conv => whnf))
     | ((first | refine opsI.step ?_ | refine codeI.step ?_); conv => whnf)
     | (intro (_ : Nat); conv => whnf)
     | (show cnd _ _ _; first
       | (refine cnd_eq (fun _ => ?_) (fun _ => ?_) <;> first | (exfalso; omega) | (conv => whnf))
       | (refine cnd_not ?_))
     | (show LdN _ _ _ _ _; first
       | (refine LdN.own 1 rfl rfl ?_; conv => whnf))
    all_goals exact RetN.all rfl

theorem ws_one {h : Heap} {b : Nat} {x : Nat} : Ws .u32 (h.put b (.cells [.int .u32 x].toArray Ty.uint32 (0, 0))) ⟨some ⟨b, 0, none⟩, 1, 1⟩ [x] :=
  Ws.put rfl (Nat.le_refl _) fun i hi => match i, hi with | 0, _ => rfl

theorem dg_small {x : Nat} (h0 : x ≠ 0) (h : x < 4294967296) : dg 4294967296 x = [x] := by
  rw [dg_pos two_le_B h0, Nat.mod_eq_of_lt h, Nat.div_eq_of_lt h, dg_zero]
theorem fits_small {q : Rat} (h1 : nu q < 4294967296) (h2 : q.den < 4294967296) : fits q := by
  have a := (ln_le_iff (k := 1) two_le_B).2 (show nu q < 4294967296 ^ 1 by omega)
  have b := (ln_le_iff (k := 1) two_le_B).2 (show q.den < 4294967296 ^ 1 by omega)
  exact ⟨by omega, by omega⟩
theorem of_small {x y : Nat} (h1 : x < 4294967296) (h2 : y < 4294967296) (hy : y ≠ 0) : okR false [x] [y] ∧ ratOf false [x] [y] = mkQ false x y := by
  have e1 : evl 4294967296 [x] = x := by simp [evl_cons, evl_nil]
  have e2 : evl 4294967296 [y] = y := by simp [evl_cons, evl_nil]
  have e : ratOf false [x] [y] = mkQ false x y := by unfold ratOf; rw [e1, e2, if_neg hy]
  have hle := mkQ_le false (m := x) hy
  refine ⟨⟨?_, ?_, ?_⟩, e⟩
  · rw [e1]; exact Nat.le_trans ((ln_le_iff (k := 1) two_le_B).2 (by omega)) (by decide)
  · rw [e2]; exact Nat.le_trans ((ln_le_iff (k := 1) two_le_B).2 (by omega)) (by decide)
  · rw [e]; exact fits_small (by omega) (by omega)
theorem nu56 : nu (mkQ false 5 6) = 5 := by rw [nu_mkQ false (by decide)]; decide
theorem den56 : (mkQ false 5 6).den = 6 := by rw [den_mkQ false (by decide)]; decide
theorem five_sixths : mkQ false 1 2 + mkQ false 1 3 = mkQ false 5 6 := by unfold mkQ; decide +kernel
theorem awake_val : spec2 (· + ·) false [1] [2] false [1] [3] = (mkQ false 5 6, 0) := by
  obtain ⟨a1, a2⟩ := of_small (x := 1) (y := 2) (by decide) (by decide) (by decide)
  obtain ⟨b1, b2⟩ := of_small (x := 1) (y := 3) (by decide) (by decide) (by decide)
  have hle := mkQ_le false (m := 5) (n := 6) (by decide)
  unfold spec2
  rw [if_pos ⟨a1, b1⟩]
  show outR (ratOf false [1] [2] + ratOf false [1] [3]) = _
  rw [a2, b2, five_sixths]
  exact if_pos (fits_small (by omega) (by omega))

set_option maxRecDepth 20000 in
theorem awake_ct (h : Heap) (tb : Tb h) : Fn0 T F.law01_awake [] h fun v _ => v = .bool true := by
  refine fn0_of_codeI ok D.law01_awake rfl ?_
  conv => whnf
  repeat ((first | refine opsI.step ?_ | refine codeI.step ?_); conv => whnf)
  repeat' first
   | ((first | refine opsI.step ?_ | refine codeI.step ?_); conv => whnf)
   | (intro (_ : Nat); conv => whnf)
  rename_i b1 b2 b3 b4
  refine CallN.keep 0 rfl rfl fun hle1 => ?_
  refine CallN.keep 0 rfl rfl fun hle2 => ?_
  refine CallN.keep 0 rfl rfl fun hle3 => ?_
  refine CallN.keep 0 rfl rfl fun hle4 => ?_
  have w4 := Ws.mono (Ws.mono (Ws.mono (ws_one (h := h) (b := b4) (x := 3)) hle2) hle3) hle4
  have w3 := Ws.mono (Ws.mono (ws_one (h := h.put b4 (.cells [.int .u32 3].toArray Ty.uint32 (0, 0))) (b := b3) (x := 1)) hle3) hle4
  have w2 := Ws.mono (ws_one (h := (h.put b4 (.cells [.int .u32 3].toArray Ty.uint32 (0, 0))).put b3 (.cells [.int .u32 1].toArray Ty.uint32 (0, 0))) (b := b2) (x := 2)) hle4
  have w1 := ws_one (h := ((h.put b4 (.cells [.int .u32 3].toArray Ty.uint32 (0, 0))).put b3 (.cells [.int .u32 1].toArray Ty.uint32 (0, 0))).put b2 (.cells [.int .u32 2].toArray Ty.uint32 (0, 0))) (b := b1) (x := 1)
  have tb' := tb.mono (Heap.le_trans hle1 (Heap.le_trans hle2 (Heap.le_trans hle3 hle4)))
  refine CallN.fn rfl (NAdd_ct _ false ⟨some ⟨b1, 0, none⟩, 1, 1⟩ ⟨some ⟨b2, 0, none⟩, 1, 1⟩ [1] [2] false ⟨some ⟨b3, 0, none⟩, 1, 1⟩ ⟨some ⟨b4, 0, none⟩, 1, 1⟩ [1] [3] tb'
    ⟨w1, w2, by simp, by simp, by simp, by simp⟩ ⟨w3, w4, by simp, by simp, by simp, by simp⟩) (fun v h' hl hr => ?_)
  rw [awake_val] at hr
  have e1 := nu56
  have e2 := den56
  clear hl w1 w2 w3 w4 tb' hle4 hle3 hle2 hle1
  obtain ⟨q, hqe⟩ : ∃ q, q = mkQ false 5 6 := ⟨_, rfl⟩
  rw [← hqe] at hr e1 e2
  clear hqe
  obtain ⟨x, y, hv, hq⟩ := hr
  change v = .tuple #[.agg #[.bool (sg q), x.val, y.val], .int .i64 0] at hv
  change IsRat h' x y q at hq
  subst hv
  have hn : Ws .u32 h' x [5] := by
    have := hq.num
    rw [e1] at this
    unfold IsNat at this
    rwa [dg_small (by decide) (by decide)] at this
  have hd : Ws .u32 h' y [6] := by
    have := hq.den
    rw [e2, if_neg (by decide)] at this
    unfold IsNat at this
    rwa [dg_small (by decide) (by decide)] at this
  have g5 : ([5] : List Nat).getD 0 0 = 5 := rfl
  have g6 : ([6] : List Nat).getD 0 0 = 6 := rfl
  have n1 : x.l = 1 := hn.len
  have n2 : y.l = 1 := hd.len
  conv => whnf
  repeat ((first | refine opsI.step ?_ | refine codeI.step ?_); conv => whnf)
  repeat' first
   | (show Idx _ _ _ _ _; first
     | (refine Idx.ws hn 0 (by omega) (by simp) (fun ad hv => ?_); conv => whnf)
     | (refine Idx.ws hd 0 (by omega) (by simp) (fun ad hv => ?_); conv => whnf))
   | (show Ld _ _ _ _; first
     | (refine Ld.of (hv _) ?_; conv => whnf)
     | (refine Ld.own 0 rfl rfl ?_; conv => whnf))
   | ((first | refine opsI.step ?_ | refine codeI.step ?_); conv => whnf)
   | (intro (_ : Nat); conv => whnf)
   | (show cnd _ _ _; first
     | (refine cnd_eq (fun _ => ?_) (fun _ => ?_) <;> first | (exfalso; omega) | (conv => whnf)))
   | (show Sto _ _ _ _; first
     | (refine Sto.lit 0 rfl rfl rfl ?_; conv => whnf))
  all_goals exact RetN.all (by rw [Vc.eq_true' (by omega)])
end Go.Proofs.YteblflmnhegmjaaDoor
