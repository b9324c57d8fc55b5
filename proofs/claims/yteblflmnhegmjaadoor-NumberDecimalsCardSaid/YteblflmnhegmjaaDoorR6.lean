/- Contracts of the reference's functions on natural numbers (digits to the base 65536), sixth part: long division, the greatest common divisor. -/
import Derived.Test.YteblflmnhegmjaaDoorR5
import Derived.Test.YteblflmnhegmjaaDoorW6
set_option linter.unusedVariables false
set_option linter.unusedSimpArgs false
namespace Go.Vc
open Go
/-- what could be read can be read behind a call for which own memory was let go -/
theorem HasLe.keep {h h' : Heap} {L : Own} {n b : Nat} {o : Obj} (hn : L[n]? = some (b, o)) (hle : h.le (h.put b o)) (hl : (h.put b o).le h') : HasLe h L h' (L.eraseIdx n) := fun a v ⟨h1, c, T, fz, h2, h3⟩ => by
  refine ⟨h1, c, T, fz, ?_, h3⟩
  rcases h2 with h2 | h2
  · exact .inl (hl _ _ (hle _ _ h2))
  · obtain ⟨j, hj, he⟩ := List.getElem_of_mem h2
    by_cases hjn : j = n
    · subst hjn
      rw [List.getElem?_eq_getElem hj, he] at hn
      cases hn
      exact .inl (hl _ _ (by simp [Heap.put]))
    · exact .inr (List.mem_eraseIdx_iff_getElem.2 ⟨j, hj, hjn, he⟩)
end Go.Vc
namespace Go.Dig
theorem div_start16 {b E D le ld : Nat} (hb : 2 ≤ b) (hE : E < b ^ le) (hD : b ^ (ld - 1) ≤ D) (h1 : 1 ≤ ld) (hle : ld ≤ le) : E / b ^ (le + 1 - ld) < D := by
  rw [Nat.div_lt_iff_lt_mul (Nat.pow_pos (by omega))]
  have e : b ^ le = b ^ (ld - 1) * b ^ (le + 1 - ld) := by rw [← Nat.pow_add]; congr 1; omega
  rw [e] at hE
  exact Nat.lt_of_lt_of_le hE (Nat.mul_le_mul_right _ hD)
theorem evl_low_of_lt {b : Nat} (hb : 2 ≤ b) {l : List Nat} {k : Nat} (h : ∀ x ∈ l, x < b) (hlt : evl b l < b ^ k) : evl b (l.take k) = evl b l := by
  rcases Nat.le_total l.length k with hk | hk
  · rw [List.take_of_length_le hk]
  · have e := evl_split (b := b) hk
    rw [evl_div hb h, Nat.div_eq_of_lt hlt, Nat.mul_zero, Nat.add_zero] at e
    exact e.symm
end Go.Dig
namespace Go.Proofs.YteblflmnhegmjaaDoor
open Go Go.Vc Go.Dig
theorem one_digit16 {n : Nat} (h : ln 65536 n = 1) : (dg 65536 n).getD 0 0 = n ∧ 0 < n ∧ n < 65536 := by
  obtain ⟨x, hx⟩ : ∃ x, dg 65536 n = [x] := List.length_eq_one_iff.1 h
  have e := evl_dg two_le_b n
  rw [hx] at e
  have e : x = n := by simpa [evl_cons, evl_nil] using e
  have hlt := dg_lt two_le_b n x (by simp [hx])
  subst e
  refine ⟨by rw [hx]; rfl, ?_, hlt⟩
  rcases Nat.eq_zero_or_pos x with h0 | h0
  · rw [h0, ln_zero] at h; omega
  · exact h0
theorem ln_shl16 {m s : Nat} (hs : s ≤ 15) : ln 65536 (m * 2 ^ s) ≤ ln 65536 m + 1 := by
  have h1 : ln 65536 (2 ^ s) ≤ 1 := (ln_le_iff two_le_b).2 (Nat.lt_of_le_of_lt (Nat.pow_le_pow_right (by omega) hs) (by decide))
  have h2 := ln_mul two_le_b m (2 ^ s)
  omega

set_option maxRecDepth 20000 in
set_option maxHeartbeats 4000000 in
theorem NatDiv_ct (h : Heap) (a b : Sl) (m n : Nat) (ha : IsRef h a m) (hb : IsRef h b n) (la : ln 65536 m ≤ 4294967296) (lb : ln 65536 n ≤ 4294967296) (h0 : n ≠ 0) :
    Fn0 T F.ref01_NatDiv [a.val, b.val] h fun v h' => ∃ q r : Sl, v = .tuple #[q.val, r.val] ∧ IsRef h' q (m / n) ∧ IsRef h' r (m % n) := by
  have hal := ha.len
  have hbl := hb.len
  have hn1 : 1 ≤ ln 65536 n := Nat.pos_of_ne_zero fun e => h0 ((ln_eq_zero two_le_b).1 e)
  have hd1 := dg_getD_lt two_le_b n 0
  have hdt := dg_getD_lt two_le_b n (ln 65536 n - 1)
  have htop : 0 < (dg 65536 n).getD (ln 65536 n - 1) 0 := by
    have h1 := le_bl h0
    rw [dg_getD two_le_b, Nat.mod_eq_of_lt]
    · exact Nat.div_pos (pow_le_of_ln two_le_b (by omega)) (Nat.pow_pos (by decide))
    · rw [Nat.div_lt_iff_lt_mul (Nat.pow_pos (by decide)), Nat.mul_comm, ← Nat.pow_succ, show (ln 65536 n - 1).succ = ln 65536 n by omega]; exact lt_pow_ln two_le_b n
  refine fn0_of_codeI ok D.ref01_NatDiv rfl ?_
  conv => whnf
  repeat ((first | refine opsI.step ?_ | refine codeI.step ?_); conv => whnf)
  by_cases hlt : m < n
  · repeat' first
     | (show CallN _ _ _ _ _ _; first
       | (refine CallN.quiet rfl (NatCmp_ct h a b m n ha hb (by omega) (by omega)) ?_; rw [cmp_lt0 hlt]; conv => whnf))
     | (show App _ _ _ _ _ _ _ _ _; first
       | (refine App.any (s := .slice _ _ _) rfl (GrowS.new (z := .int .u32 0) (kd := .u32) 0 rfl) ha (by unfold ln at *; omega) (by decide) (fun v' L' g => ?_); conv => whnf))
     | ((first | refine opsI.step ?_ | refine codeI.step ?_); conv => whnf)
     | (intro (_ : Nat); conv => whnf)
     | (show cnd _ _ _; first
       | (refine cnd_lt (fun _ => ?_) (fun _ => ?_) <;> first | (exfalso; omega) | (conv => whnf))
       | (refine cnd_eq (fun _ => ?_) (fun _ => ?_) <;> first | (exfalso; omega) | (conv => whnf)))
    refine ⟨FzN.grow g fun h' s hle hv w => ⟨rfl, ⟨none, 0, 0⟩, s, by rw [hv] <;> rfl, ?_, ?_⟩⟩
    · rw [Nat.div_eq_of_lt hlt]; unfold IsRef; rw [dg_zero]; exact Ws.nil rfl
    · rw [Nat.mod_eq_of_lt hlt]; exact w
  · have hc := cmp_ge0 (m := m) (n := n) (by omega)
    have hmn := ln_mono two_le_b (Nat.not_lt.1 hlt)
    obtain ⟨c, hcc⟩ : ∃ c, c = cmpI m n := ⟨_, rfl⟩
    rw [← hcc] at hc
    replace hcc := Hq.mk hcc
    repeat' first
     | (show CallN _ _ _ _ _ _; first
       | (refine CallN.quiet rfl (NatCmp_ct h a b m n ha hb (by omega) (by omega)) ?_; rw [← hcc.out]; conv => whnf))
     | (show Idx _ _ _ _ _; first
       | (refine Idx.ws hb 0 (by omega) (by unfold ln at *; omega) (fun ad hv => ?_); conv => whnf))
     | (show Ld _ _ _ _; first
       | (refine Ld.of (by first | exact hv _ | (rename_i hv; exact hv _)) ?_; conv => whnf))
     | ((first | refine opsI.step ?_ | refine codeI.step ?_); conv => whnf)
     | (show cnd _ _ _; first
       | (refine cnd_lt (fun _ => ?_) (fun _ => ?_) <;> first | (exfalso; omega) | (conv => whnf))
       | (refine cnd_eq (fun _ => ?_) (fun _ => ?_) <;> first | (exfalso; omega) | (conv => whnf)))
    · obtain ⟨e1, e2, e3⟩ := one_digit16 (n := n) (by omega)
      refine CallN.fn rfl (small_ct _ a m ((dg 65536 n).getD 0 0) ha (by omega) hd1 (by omega)) (fun v h' hl hr => ?_)
      obtain ⟨q, rfl, hq⟩ := hr
      rw [e1] at hq ⊢
      have hr := Nat.mod_lt m e2
      obtain ⟨r, hrr⟩ : ∃ r, r = m % n := ⟨_, rfl⟩
      rw [← hrr] at hr ⊢
      conv => whnf
      repeat ((first | refine opsI.step ?_ | refine codeI.step ?_); conv => whnf)
      repeat' first
       | (show CallN _ _ _ _ _ _; first
         | (refine CallN.fn rfl (NatOf_ct _ r (by omega)) (fun v h' hl hr => ?_); obtain ⟨s', rfl, hs'⟩ := hr; conv => whnf))
       | ((first | refine opsI.step ?_ | refine codeI.step ?_); conv => whnf)
       | (show WrapN _ _ _; first
         | (refine WrapN.u64 (by omega) (by omega) ?_; conv => whnf))
      exact RetN.all ⟨q, _, rfl, hq.mono ‹_›, ‹_›⟩
    obtain ⟨t, ht⟩ : ∃ t, t = (dg 65536 n).getD (ln 65536 n - 1) 0 := ⟨_, rfl⟩
    rw [← ht] at hdt htop
    replace ht := Hq.mk ht
    refine LoopN.of (fun r ρ h' L => ∃ s : Nat, r = 16 - s ∧ h' = h ∧ L = [] ∧ rd ρ 8 = .int .i64 s ∧ s ≤ 15) 16 ⟨0, rfl, rfl, rfl, rfl, by omega⟩ ?_
    conv => whnf
    repeat intro _
    rename_i rr h1 L1 hI
    obtain ⟨s, rfl, rfl, rfl, e0, hs15⟩ := hI
    conv at e0 => lhs; whnf
    subst e0
    conv => whnf
    repeat ((first | refine opsI.step ?_ | refine codeI.step ?_); conv => whnf)
    repeat' first
     | (show Idx _ _ _ _ _; first
       | (refine Idx.ws hb (ln 65536 n - 1) (by omega) (by unfold ln at *; omega) (fun ad hv => ?_); conv => whnf))
     | (show Ld _ _ _ _; first
       | (refine Ld.of (by first | exact hv _ | (rename_i hv; exact hv _)) ?_; rw [← ht.out]; conv => whnf))
     | (show ShlN _ _ _ _; first
       | (refine ShlN.u32p (r := s) rfl (by omega) hdt hs15 (fun p hp hp' => ?_); conv => whnf))
     | ((first | refine opsI.step ?_ | refine codeI.step ?_); conv => whnf)
     | (show WrapN _ _ _; first
       | (refine WrapN.i64 (by omega) (by omega) ?_; conv => whnf)
       | (refine WrapN.u64 (by omega) (by omega) ?_; conv => whnf))
     | (show cnd _ _ _; first
       | (refine cnd_lt (fun _ => ?_) (fun _ => ?_) <;> first | (exfalso; omega) | (conv => whnf)))
    · have hs : s ≠ 15 := fun e => by
        have := hp.out
        subst e
        omega
      exact ⟨rfl, 16 - (s + 1), by omega, s + 1, rfl, rfl, rfl, vi (by omega), by omega⟩
    clear hp hp' hv
    refine CallN.fn rfl (NatShl_ct _ b n s hb (by omega) (by omega)) (fun v h2 hle2 hr => ?_)
    obtain ⟨dd, rfl, hdd⟩ := hr
    have hshl := ln_shl16 (m := m) hs15
    have hshl2 := ln_shl16 (m := n) hs15
    have hDpos : 0 < n * 2 ^ s := Nat.mul_pos (by omega) (Nat.two_pow_pos s)
    have hDE : ln 65536 (n * 2 ^ s) ≤ ln 65536 (m * 2 ^ s) := ln_mono two_le_b (Nat.mul_le_mul_right _ (Nat.not_lt.1 hlt))
    have hDl : 1 ≤ ln 65536 (n * 2 ^ s) := Nat.pos_of_ne_zero fun e => by have := (ln_eq_zero two_le_b).1 e; omega
    obtain ⟨D, hD⟩ : ∃ D, D = n * 2 ^ s := ⟨_, rfl⟩
    obtain ⟨E, hE⟩ : ∃ E, E = m * 2 ^ s := ⟨_, rfl⟩
    rw [← hD] at hdd hDE hDl hDpos hshl2
    rw [← hE] at hDE hshl
    have hdl := hdd.len
    replace hD := Hq.mk hD
    have hstart := Hq.mk (div_start16 (b := 65536) (E := E) (D := D) two_le_b (lt_pow_ln two_le_b E) (pow_le_of_ln two_le_b (by omega)) hDl hDE)
    conv => whnf
    repeat ((first | refine opsI.step ?_ | refine codeI.step ?_); conv => whnf)
    refine CallN.make rfl (NatShl_ow _ a m s (ha.mono hle2) (by omega) (by omega)) (fun v h3 La hle3 hr => ?_)
    rw [← hE] at hr
    replace hE := Hq.mk hE
    conv => whnf
    repeat ((first | refine opsI.step ?_ | refine codeI.step ?_); conv => whnf)
    repeat' first
     | (show App _ _ _ _ _ _ _ _ _; first
       | (refine App.push rfl (hr.behind []) 0 rfl (by omega) (by decide) (fun v' L' g => ?_); conv => whnf))
     | ((first | refine opsI.step ?_ | refine codeI.step ?_); conv => whnf)
     | (intro (_ : Nat); conv => whnf)
    obtain ⟨o0, ho0⟩ : ∃ o0, o0 = dg 65536 E ++ [0] := ⟨_, rfl⟩
    rw [← ho0] at g
    have ol : o0.length = ln 65536 E + 1 := by rw [ho0]; simp [ln]
    have oB : ∀ x ∈ o0, x < 65536 := by rw [ho0]; exact mem_snoc (dg_lt two_le_b E) (by decide)
    have oE : evl 65536 o0 = E := by rw [ho0, evl_snoc, Nat.mul_zero, Nat.add_zero, evl_dg two_le_b]
    have hs0 : evl 65536 (o0.drop (ln 65536 E + 1 - ln 65536 D)) < D := by rw [evl_div two_le_b oB, oE]; exact hstart.out
    clear ho0 hstart hr
    obtain ⟨rfl, hx, -⟩ | ⟨i, bu, cap, zs, rfl, hLi, hcap, -⟩ := g.out
    · omega
    clear g
    have hiL := (List.getElem?_eq_some_iff.1 hLi).1
    have hset : L' = L'.set i (bu, RowZ .u32 Ty.uint32 o0 zs) := by
      obtain ⟨_, hget⟩ := List.getElem?_eq_some_iff.1 hLi
      conv => lhs; rw [← List.set_getElem_self hiL, hget]
    conv => whnf
    repeat ((first | refine opsI.step ?_ | refine codeI.step ?_); conv => whnf)
    repeat' first
     | (show Mk _ _ _; first
       | (refine Mk.of (ln 65536 E + 1 - ln 65536 D) (by omega) (by omega) (by omega) ?_; conv => whnf))
     | (refine ⟨Nat.le_refl _, ?_⟩; conv => whnf)
     | (intro (bq : Nat); conv => whnf)
     | ((first | refine opsI.step ?_ | refine codeI.step ?_); conv => whnf)
     | (show WrapN _ _ _; first
       | (refine WrapN.i64 (by omega) (by omega) ?_; conv => whnf))
    refine LoopN.of (fun r ρ h' L => ∃ (o qs : List Nat), h3.le h' ∧ L = (bq, Row .u32 Ty.uint32 qs) :: L'.set i (bu, RowZ .u32 Ty.uint32 o zs) ∧ rd ρ 13 = .int .i64 ((r : Int) - 1) ∧ r ≤ ln 65536 E + 1 - ln 65536 D ∧ o.length = ln 65536 E + 1 ∧ (∀ x ∈ o, x < 65536) ∧ qs.length = ln 65536 E + 1 - ln 65536 D ∧ (∀ x ∈ qs, x < 65536) ∧ Hq (evl 65536 (o.drop r) < D) ∧ Hq (evl 65536 (o.drop r) + D * evl 65536 (qs.drop r) = evl 65536 (o0.drop r)) ∧ Hq (o.take r = o0.take r)) (ln 65536 E + 1 - ln 65536 D)
      ⟨o0, List.replicate (ln 65536 E + 1 - ln 65536 D) 0, Heap.le_refl _, by rw [row_new, ← hset], vi (by omega), Nat.le_refl _, ol, oB, by simp, by simp, ⟨hs0⟩, ⟨by rw [evl_zeros 65536 (l := (List.replicate (ln 65536 E + 1 - ln 65536 D) 0).drop _) (fun x hx => by have := List.mem_of_mem_drop hx; simp at this; omega), Nat.mul_zero, Nat.add_zero]⟩, ⟨rfl⟩⟩ ?_
    conv => whnf
    repeat intro _
    rename_i k h4 L4 hI
    obtain ⟨o, qs, hle4, rfl, e0, hk, hol, hoB, hql, hqB, hlt', heq, htk⟩ := hI
    conv at e0 => lhs; whnf
    subst e0
    replace hoB := Hq.mk hoB
    replace hqB := Hq.mk hqB
    replace oB := Hq.mk oB
    by_cases hk0 : k = 0
    · subst hk0
      rw [List.drop_zero, List.drop_zero, List.drop_zero, oE, hE.out, hD.out] at heq
      rw [List.drop_zero] at hlt'
      have hlow := evl_low_of_lt two_le_b hoB.out (k := ln 65536 D) (Nat.lt_trans hlt'.out (lt_pow_ln two_le_b D))
      rw [hD.out] at hlt'
      obtain ⟨r1, r2, -⟩ := div_fin heq.out hlt'.out
      have hlu : ln 65536 (evl 65536 (o.take (ln 65536 D))) ≤ ln 65536 E + 1 := by rw [hlow, ← hol]; exact (ln_le_iff two_le_b).2 (evl_lt two_le_b hoB.out)
      conv => whnf
      repeat ((first | refine opsI.step ?_ | refine codeI.step ?_); conv => whnf)
      repeat' first
       | (show CutA _ _ _ _ _ _; first
         | (refine CutA.front (s := ⟨some ⟨bu, 0, none⟩, ln 65536 E + 1, cap⟩) (ln 65536 D) (by omega) (by show ln 65536 D ≤ cap; omega) ?_; conv => whnf))
       | ((first | refine opsI.step ?_ | refine codeI.step ?_); conv => whnf)
       | (show cnd _ _ _; first
         | (refine cnd_le (fun _ => ?_) (fun _ => ?_) <;> first | (exfalso; omega) | (conv => whnf)))
       | (show DrawN _ _ _ _ _ _; first
         | (refine DrawN.run (by decide +kernel) ?_; conv => whnf))
      refine CallN.keep 0 rfl rfl fun hle5 => ?_
      refine CallN.fn rfl (trim_ct _ ⟨some ⟨bq, 0, none⟩, ln 65536 E + 1 - ln 65536 D, ln 65536 E + 1 - ln 65536 D⟩ qs (Ws.row (by omega)) hqB.out (by omega)) (fun v h5 hle6 hr => ?_)
      obtain ⟨q', rfl, hq'⟩ := hr
      refine ⟨fun _ => HasLe.keep (n := 0) rfl hle5 hle6, ?_⟩
      conv => whnf
      repeat ((first | refine opsI.step ?_ | refine codeI.step ?_); conv => whnf)
      refine CallN.keep i (List.getElem?_set_self hiL) rfl fun hle7 => ?_
      refine CallN.fn rfl (trim_ct _ ⟨some ⟨bu, 0, none⟩, ln 65536 D, cap⟩ (o.take (ln 65536 D)) ⟨by simp; omega, by simp; omega, fun _ => ⟨bu, 0, (o.map (vu .u32) ++ zs).toArray, Ty.uint32, (0, 0), rfl, by simp only [Heap.put, if_true], fun j hj => by
        have hj2 : j < ln 65536 D ∧ j < o.length := by simp at hj; omega
        rw [Nat.zero_add, rowz_get hj2.2]
        simp [List.getD_eq_getElem?_getD, List.getElem?_take, hj2.1]⟩⟩ (fun x hx => hoB.out x (List.mem_of_mem_take hx)) (by simp; omega)) (fun v h6 hle8 hr => ?_)
      obtain ⟨u', rfl, hu'⟩ := hr
      refine ⟨fun _ => HasLe.keep (n := i) (List.getElem?_set_self hiL) hle7 hle8, ?_⟩
      conv => whnf
      repeat ((first | refine opsI.step ?_ | refine codeI.step ?_); conv => whnf)
      refine CallN.fn rfl (NatShr_ct _ u' _ s hu' (by omega) (by omega)) (fun v h7 hle9 hr => ?_)
      obtain ⟨r', rfl, hr'⟩ := hr
      rw [hlow, r2] at hr'
      rw [r1] at hq'
      refine ⟨fun _ => HasLe.of_le hle9, ?_⟩
      conv => whnf
      repeat ((first | refine opsI.step ?_ | refine codeI.step ?_); conv => whnf)
      exact RetN.all ⟨q', r', rfl, ((hq'.mono hle7).mono hle8).mono hle9, hr'⟩
    · obtain ⟨j, rfl⟩ : ∃ j, k = j + 1 := ⟨k - 1, by omega⟩
      obtain ⟨p, u, rfl, rfl⟩ : ∃ p u, o = p ++ u ∧ p.length = j := ⟨o.take j, o.drop j, (List.take_append_drop j o).symm, by simp; omega⟩
      have hul : p.length + u.length = ln 65536 E + 1 := by simpa using hol
      have huB : ∀ x ∈ u, x < 65536 := fun x hx => hoB.out x (List.mem_append_right _ hx)
      have hpB : ∀ x ∈ p, x < 65536 := fun x hx => hoB.out x (List.mem_append_left _ hx)
      obtain ⟨x, u1, rfl⟩ : ∃ x u1, u = x :: u1 := by
        match u, hul with
        | [], h => simp at h; omega
        | x :: u1, _ => exact ⟨x, u1, rfl⟩
      have hdr : (p ++ x :: u1).drop (p.length + 1) = u1 := by rw [List.drop_append]; simp
      rw [hdr] at heq hlt'
      have hxB := huB x (by simp)
      have hx0 : o0.getD p.length 0 = x := by
        have := congrArg (fun l => l.getD p.length 0) htk.out
        simpa [List.getD_eq_getElem?_getD, List.getElem?_take] using this.symm
      have hE0 := evl_drop (b := 65536) (l := o0) (k := p.length) (by omega)
      rw [hx0] at hE0
      have hUD : evl 65536 (x :: u1) < D * 65536 := by
        rw [evl_cons]
        have : (evl 65536 u1 + 1) * 65536 ≤ D * 65536 := Nat.mul_le_mul_right _ hlt'.out
        rw [Nat.add_mul, Nat.mul_comm] at this; omega
      have hUq := Nat.div_add_mod (evl 65536 (x :: u1)) D
      have hqB' : evl 65536 (x :: u1) / D < 65536 := (Nat.div_lt_iff_lt_mul hDpos).2 (by rw [Nat.mul_comm]; exact hUD)
      have hrD := Nat.mod_lt (evl 65536 (x :: u1)) hDpos
      obtain ⟨q, hq⟩ : ∃ q, q = evl 65536 (x :: u1) / D := ⟨_, rfl⟩
      obtain ⟨r, hr⟩ : ∃ r, r = evl 65536 (x :: u1) % D := ⟨_, rfl⟩
      rw [← hq] at hUq hqB'
      rw [← hr] at hUq hrD
      rw [Nat.mul_comm] at hUq
      have hstep := Hq.mk (div_step heq.out (evl_cons _ _ _) hE0 hUq.symm)
      replace hUq := Hq.mk hUq
      replace hE0 := Hq.mk hE0
      replace hrD := Hq.mk hrD
      have hmm : ln 65536 D = (ln 65536 D - 1) + 1 := by omega
      replace hq := Hq.mk hq
      replace hr := Hq.mk hr
      replace hUD := Hq.mk hUD
      replace hx0 := Hq.mk hx0
      replace huB := Hq.mk huB
      replace hpB := Hq.mk hpB
      conv => whnf
      repeat ((first | refine opsI.step ?_ | refine codeI.step ?_); conv => whnf)
      repeat' first
       | (show CutA _ _ _ _ _ _; first
         | (refine CutA.own p.length (p.length + ln 65536 D + 1) (by omega) (by omega) (by omega) (by omega) (by omega) ?_; conv => whnf))
       | ((first | refine opsI.step ?_ | refine codeI.step ?_); conv => whnf)
       | (show WrapN _ _ _; first
         | (refine WrapN.i64 (by omega) (by omega) ?_; conv => whnf))
       | (show cnd _ _ _; first
         | (refine cnd_le (fun _ => ?_) (fun _ => ?_) <;> first | (exfalso; omega) | (conv => whnf)))
      rw [show p.length + ln 65536 D + 1 - p.length = (ln 65536 D - 1) + 2 by omega]
      refine CallN.own (i + 1) (by rw [List.getElem?_cons_succ]; exact List.getElem?_set_self hiL) rfl (rdigit_ct _ bu _ p (x :: u1) zs dd D (ln 65536 D - 1) ((hdd.mono hle3).mono hle4) hmm (by omega) (by omega) (by omega) huB.out hUD.out (by omega)) (fun v h5 La5 hle5 hr4 => ?_)
      obtain ⟨u', e1, e2, hul', huB', hu'e⟩ := hr4
      rw [← hr.out] at hu'e
      rw [← hq.out] at e2
      subst e1 e2
      refine ⟨_, rfl, ?_⟩
      rw [List.set_cons_succ, List.set_set]
      conv => whnf
      repeat ((first | refine opsI.step ?_ | refine codeI.step ?_); conv => whnf)
      repeat' first
       | (show Idx _ _ _ _ _; first
         | (refine Idx.own p.length (by omega) (by omega) ?_; conv => whnf))
       | (show Sto _ _ _ _; first
         | (refine Sto.ws 0 rfl q (by omega) (by omega) ?_; conv => whnf))
       | ((first | refine opsI.step ?_ | refine codeI.step ?_); conv => whnf)
       | (show WrapN _ _ _; first
         | (refine WrapN.i64 (by omega) (by omega) ?_; conv => whnf))
      refine ⟨rfl, p.length, by omega, p ++ u', qs.set p.length q, Heap.le_trans hle4 hle5, rfl, vi (by omega), by omega, by rw [List.length_append, hul']; exact hul, ?_, by simp [hql], mem_set_lt hqB.out hqB', ⟨?_⟩, ⟨?_⟩, ⟨?_⟩⟩
      · intro y hy
        rcases List.mem_append.1 hy with hy | hy
        · exact hpB.out y hy
        · exact huB' y hy
      · rw [List.drop_left, hu'e]; exact hrD.out
      · rw [List.drop_left, hu'e, evl_drop (k := p.length) (l := qs.set p.length q) (by simp; omega), getD_set_self _ (by omega), drop_set]; exact hstep.out
      · have := congrArg (fun l => l.take p.length) htk.out
        simp only [List.take_take, Nat.min_eq_left (Nat.le_succ p.length)] at this
        rw [← this, List.take_left, List.take_left]

set_option maxRecDepth 20000 in
theorem NatGcd_ct (h : Heap) (a b : Sl) (m n : Nat) (ha : IsRef h a m) (hb : IsRef h b n) (la : ln 65536 m ≤ 4294967296) (lb : ln 65536 n ≤ 4294967296) :
    Fn0 T F.ref01_NatGcd [a.val, b.val] h fun v h' => ∃ s : Sl, v = s.val ∧ IsRef h' s (Nat.gcd m n) := by
  refine fn0_of_codeI ok D.ref01_NatGcd rfl ?_
  conv => whnf
  repeat ((first | refine opsI.step ?_ | refine codeI.step ?_); conv => whnf)
  refine LoopN.of (fun r ρ h' L => ∃ (a b : Sl) (m' n' : Nat), r = n' ∧ L = [] ∧ h.le h' ∧ rd ρ 0 = a.val ∧ rd ρ 1 = b.val ∧ IsRef h' a m' ∧ IsRef h' b n' ∧ ln 65536 m' ≤ 4294967296 ∧ ln 65536 n' ≤ 4294967296 ∧ Hq (Nat.gcd m' n' = Nat.gcd m n)) n
    ⟨a, b, m, n, rfl, rfl, Heap.le_refl _, rfl, rfl, ha, hb, la, lb, ⟨rfl⟩⟩ ?_
  conv => whnf
  repeat intro _
  rename_i r h1 L1 hI
  obtain ⟨a, b, m', n', rfl, rfl, hle, e0, e1, ha, hb, la, lb, hg⟩ := hI
  conv at e0 => lhs; whnf
  subst e0
  conv at e1 => lhs; whnf
  subst e1
  have hbl := hb.len
  have hz := ln_eq_zero two_le_b (n := r)
  by_cases h0 : r = 0
  · have := hz.2 h0
    clear hz
    conv => whnf
    repeat ((first | refine opsI.step ?_ | refine codeI.step ?_); conv => whnf)
    repeat' first
     | ((first | refine opsI.step ?_ | refine codeI.step ?_); conv => whnf)
     | (show cnd _ _ _; first
       | (refine cnd_lt (fun _ => ?_) (fun _ => ?_) <;> first | (exfalso; omega) | (conv => whnf)))
    refine RetN.all ⟨a, rfl, ?_⟩
    rw [← hg.out, h0, Nat.gcd_zero_right]; exact ha
  · have : ln 65536 r ≠ 0 := fun e => h0 (hz.1 e)
    clear hz
    have hmod := Nat.mod_lt m' (Nat.pos_of_ne_zero h0)
    have hlm := ln_mono two_le_b (Nat.le_of_lt hmod)
    conv => whnf
    repeat ((first | refine opsI.step ?_ | refine codeI.step ?_); conv => whnf)
    repeat' first
     | (show CallN _ _ _ _ _ _; first
       | (refine CallN.fn rfl (NatDiv_ct _ _ _ _ _ (by assumption) (by assumption) (by omega) (by omega) (by omega)) (fun v h' hl hr => ?_); obtain ⟨q', r', rfl, hq', hr'⟩ := hr; conv => whnf))
     | ((first | refine opsI.step ?_ | refine codeI.step ?_); conv => whnf)
     | (show cnd _ _ _; first
       | (refine cnd_lt (fun _ => ?_) (fun _ => ?_) <;> first | (exfalso; omega) | (conv => whnf)))
    exact ⟨rfl, m' % r, hmod, b, _, r, m' % r, rfl, rfl, Heap.le_trans hle ‹_›, rfl, rfl, hb.mono ‹_›, ‹_›, by omega, by omega, ⟨by rw [gcd_step]; exact hg.out⟩⟩
end Go.Proofs.YteblflmnhegmjaaDoor
