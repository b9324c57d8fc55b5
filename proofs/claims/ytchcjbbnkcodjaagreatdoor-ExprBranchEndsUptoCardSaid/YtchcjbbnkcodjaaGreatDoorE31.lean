/- The reference's walk over a tree, and Valid. -/
import Derived.Test.YtchcjbbnkcodjaaGreatDoorE30
set_option linter.unusedVariables false
set_option linter.unusedSimpArgs false
namespace Go.Proofs.YtchcjbbnkcodjaaGreatDoor
open Go Go.Vc Go.Dig
def wlkT (d n : Nat) (t : Tr) : Int := if okT d t ∧ szT t ≤ n then (n : Int) - (szT t : Nat) else -1
theorem wlkT_neg (d n : Nat) (t : Tr) : wlkT d n t < 0 ↔ ¬ (okT d t ∧ szT t ≤ n) := by
  unfold wlkT
  split
  · rename_i x; exact ⟨fun y => by have := x.2; omega, fun y => absurd x y⟩
  · rename_i x; exact ⟨fun _ => x, fun _ => by omega⟩
set_option maxRecDepth 20000 in
set_option maxHeartbeats 2000000 in
theorem rwalk_ct : ∀ t : Tr, ∀ (h : Heap) (vs : List Value) (d n : Nat), IsE h vs t → n ≤ 300 → d ≤ 1000 → Fn0 T F.ref04_walk [.agg vs.toArray, .int .i64 d, .int .i64 n] h fun v h' => v = .int .i64 (wlkT d n t) := by
  refine tree_ind fun t ih => ?_
  intro h vs d n w hn hd
  obtain ⟨op, arg, neg, l, m, name, ks⟩ := t
  obtain ⟨a, b, s, rfl, ho, ha, hv, hb, hk⟩ := w.isK
  have c1 := fun h hv => rnode_ct h op arg neg a b l m name s ks.length hv hb hk.len
  have f1 : n = 0 → wlkT d n (.mk op arg neg l m name ks) = -1 := fun x => if_neg fun y => by
    have := y.2
    rw [szT] at this; omega
  have f2 : d > 30 → wlkT d n (.mk op arg neg l m name ks) = -1 := fun x => if_neg fun y => by
    have := y.1
    rw [okT] at this; omega
  have f3 : ¬ nodeB op arg neg l m name ks.length → wlkT d n (.mk op arg neg l m name ks) = -1 := fun x => if_neg fun y => by
    have := y.1
    rw [okT] at this; exact x this.2.1
  have f4 : ∀ j c t, ks[j]? = some t → c + 1 + szTs (ks.take j) = n → wlkT (d + 1) c t < 0 → wlkT d n (.mk op arg neg l m name ks) = -1 := fun j c t ht hc x => if_neg fun y => by
    obtain ⟨y1, y2⟩ := y
    rw [okT] at y1
    rw [szT] at y2
    have e := take_tail ht
    rw [e, szTs_append, szTs] at y2
    have z := y1.2.2
    rw [e, okTs_append, okTs] at z
    exact (wlkT_neg _ _ _).1 x ⟨z.2.1, by omega⟩
  have f5 : d ≤ 30 → nodeB op arg neg l m name ks.length → okTs (d + 1) ks → ∀ c, c + 1 + szTs ks = n → wlkT d n (.mk op arg neg l m name ks) = c := fun x y z c u => by
    unfold wlkT
    rw [if_pos (show okT d (.mk op arg neg l m name ks) ∧ szT (.mk op arg neg l m name ks) ≤ n from ⟨by rw [okT]; exact ⟨x, y, z⟩, by rw [szT]; omega⟩), szT]; omega
  obtain ⟨R, hR⟩ : ∃ R, R = wlkT d n (.mk op arg neg l m name ks) := ⟨_, rfl⟩
  rw [← hR] at f1 f2 f3 f4 f5 ⊢
  have hkl := hk.len
  refine fn0_of_codeI ok D.ref04_walk rfl ?_
  conv => whnf
  repeat ((first | refine opsI.step ?_ | refine codeI.step ?_); conv => whnf)
  repeat' first | (show CallN _ _ _ _ _ _; first | (refine CallN.fn rfl (c1 _ (by assumption)) (fun v h' hl2 hr => ?_); subst hr; conv => whnf)) | ((first | refine opsI.step ?_ | refine codeI.step ?_); conv => whnf) | (intro (_ : Nat); conv => whnf) | (refine WrapN.i64 (by omega) (by omega) ?_; conv => whnf) | (show cnd _ _ _; first | (refine cnd_lt (fun _ => ?_) (fun _ => ?_) <;> first | (exfalso; omega) | (conv => whnf)) | (refine cnd_le (fun _ => ?_) (fun _ => ?_) <;> first | (exfalso; omega) | (conv => whnf)) | (refine cnd_not ?_) | (refine cnd_dec (fun _ => ?_) (fun _ => ?_) <;> first | (exfalso; omega) | (conv => whnf))) | (refine LdN.own 0 rfl rfl ?_; conv => whnf)
  · rw [f2 (by omega)]; exact RetN.all rfl
  · rw [f1 (by omega)]; exact RetN.all rfl
  · rename_i be x1 x2 x3
    have hd30 : d ≤ 30 := by omega
    have hNBt : nodeB op arg neg l m name ks.length := by assumption
    replace f5 := f5 hd30 hNBt
    have hks : ks.length ≤ 3 := by
      have h1 := hNBt.1
      have h2 := kidsN_le op
      omega
    clear f1 f2 f3
    have hle0 : h.le h' := by assumption
    refine LoopN.of (fun r ρ hx L => ∃ (j c : Nat), r = ks.length - j ∧ h.le hx ∧ j ≤ ks.length ∧ rd ρ 7 = .int .i64 j ∧ rd ρ 2 = .int .i64 c ∧
        L = [(be, .cells [.int .i64 op, .int .i64 arg, .bool neg, a.val, b.val, .string (txt name), s.val].toArray Ty.api_Expr (0, 0))] ∧ c ≤ 300 ∧ c + 1 + szTs (ks.take j) = n ∧ Hq (okTs (d + 1) (ks.take j))) ks.length
      ⟨0, n - 1, rfl, hle0, Nat.zero_le _, rfl, vi (by omega), rfl, by omega, by rw [List.take_zero, szTs]; omega, ⟨by rw [List.take_zero, okTs]; trivial⟩⟩ ?_
    conv => whnf
    repeat intro _
    rename_i r hx L2 hI
    obtain ⟨j, c, rfl, hle, hj, e7, e2, rfl, hc3, hc, hq⟩ := hI
    conv at e7 => lhs; whnf
    subst e7
    conv at e2 => lhs; whnf
    subst e2
    by_cases hjl : j = ks.length
    · subst hjl
      rw [List.take_length] at hc hq
      rw [f5 hq.out c hc]
      conv => whnf
      repeat ((first | refine opsI.step ?_ | refine codeI.step ?_); conv => whnf)
      repeat' first | ((first | refine opsI.step ?_ | refine codeI.step ?_); conv => whnf) | (refine cnd_lt (fun _ => ?_) (fun _ => ?_) <;> first | (exfalso; omega) | (conv => whnf)) | (refine Ld.own 0 rfl rfl ?_; conv => whnf)
      exact RetN.all rfl
    · obtain ⟨t, ht⟩ : ∃ t, ks[j]? = some t := ⟨_, List.getElem?_eq_getElem (by omega)⟩
      have c2 := fun h vs w => ih t (szT_kid ht) h vs (d + 1) c w hc3 (by omega)
      have f4 := f4 j c t ht hc
      have hc4 : ¬ wlkT (d + 1) c t < 0 → okTs (d + 1) (ks.take (j + 1)) ∧ ∃ c' : Nat, wlkT (d + 1) c t = c' ∧ c' ≤ 300 ∧ c' + 1 + szTs (ks.take (j + 1)) = n := fun x => by
        have y : okT (d + 1) t ∧ szT t ≤ c := Decidable.not_not.1 fun z => x ((wlkT_neg _ _ _).2 z)
        rw [take_snoc ht, okTs_append, szTs_append, okTs, szTs, szTs, okTs]
        refine ⟨⟨hq.out, y.1, trivial⟩, c - szT t, ?_, by omega, by omega⟩
        unfold wlkT
        rw [if_pos y]; omega
      obtain ⟨C, hC⟩ : ∃ C, C = wlkT (d + 1) c t := ⟨_, rfl⟩
      rw [← hC] at c2 f4 hc4
      replace hc4 := Hq.mk hc4
      have hkx := hk.mono hle
      conv => whnf
      repeat ((first | refine opsI.step ?_ | refine codeI.step ?_); conv => whnf)
      repeat' first | (show Idx _ _ _ _ _; first | (refine Idx.kid hkx j t (by omega) ht (fun ad op2 arg2 neg2 a2 b2 name2 s2 hE hld => ?_); conv => whnf)) | (refine hld _ _ _ (Heap.le_refl _) ?_; conv => whnf) | ((first | refine opsI.step ?_ | refine codeI.step ?_); conv => whnf) | (show CallN _ _ _ _ _ _; first | (refine CallN.fn rfl (c2 _ _ (by assumption)) (fun v h' hl2 hr => ?_); subst hr; conv => whnf)) | (refine WrapN.i64 (by omega) (by omega) ?_; conv => whnf) | (refine cnd_lt (fun _ => ?_) (fun _ => ?_) <;> first | (exfalso; omega) | (conv => whnf)) | (refine Ld.own 0 rfl rfl ?_; conv => whnf)
      · rw [f4 (by omega)]; exact RetN.all rfl
      · obtain ⟨x1, c', x2, x3, x4⟩ := hc4.out (by omega)
        exact ⟨rfl, ks.length - (j + 1), by omega, j + 1, c', rfl, (by (iterate 30 (try first | assumption | refine Heap.le_trans ?_ (by assumption))); first | done | assumption), by omega, vi (by omega), vi (by omega), rfl, x3, x4, ⟨x1⟩⟩
  · rw [f3 (by assumption)]; exact RetN.all rfl
theorem wlkT_val (t : Tr) : 0 ≤ wlkT 1 300 t ↔ ValT t := by
  have := wlkT_neg 1 300 t
  unfold ValT
  constructor
  · intro x
    exact Decidable.not_not.1 fun z => by have := this.2 z; omega
  · intro x
    have : ¬ wlkT 1 300 t < 0 := fun y => this.1 y x
    omega
set_option maxRecDepth 20000 in
theorem RValid_ct (t : Tr) (h : Heap) (vs : List Value) (w : IsE h vs t) : Fn0 T F.ref04_Valid [.agg vs.toArray] h fun v h' => v = .bool (dec (ValT t)) := by
  have hv := wlkT_val t
  have c1 := fun h w => rwalk_ct t h vs 1 300 w (by omega) (by omega)
  obtain ⟨C, hC⟩ : ∃ C, C = wlkT 1 300 t := ⟨_, rfl⟩
  rw [← hC] at c1 hv
  obtain ⟨⟨op, arg, neg, l, m, name, ks⟩, ht⟩ : ∃ u, u = t := ⟨_, rfl⟩
  obtain ⟨a, b, s, hvs, -⟩ := (ht.symm ▸ w : IsE h vs (.mk op arg neg l m name ks)).isK
  subst hvs
  refine fn0_of_codeI ok D.ref04_Valid rfl ?_
  conv => whnf
  repeat ((first | refine opsI.step ?_ | refine codeI.step ?_); conv => whnf)
  repeat' first | (show CallN _ _ _ _ _ _; first | (refine CallN.fn rfl (c1 _ (by assumption)) (fun v h' hl2 hr => ?_); subst hr; conv => whnf)) | ((first | refine opsI.step ?_ | refine codeI.step ?_); conv => whnf) | (intro (_ : Nat); conv => whnf) | (refine LdN.own 0 rfl rfl ?_; conv => whnf)
  refine RetN.all ?_
  congr 1
  unfold le
  rw [dec_eq]
  refine decide_eq_decide.2 ?_
  rw [← hv]
end Go.Proofs.YtchcjbbnkcodjaaGreatDoor