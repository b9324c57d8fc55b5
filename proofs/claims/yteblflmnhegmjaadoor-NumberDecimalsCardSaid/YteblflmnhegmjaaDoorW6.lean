/- Contracts of package word's functions on natural numbers, sixth part: long division, the greatest common divisor. -/
import Derived.Test.YteblflmnhegmjaaDoorW5
import Derived.Test.YteblflmnhegmjaaDoorDig4
set_option linter.unusedVariables false
set_option linter.unusedSimpArgs false
namespace Go.Vc
open Go Go.Dig
/-- a stretch of an own slice -/
theorem CutA.own {b c : Nat} {l h : Int} {k : Option Addr → Nat → Nat → Prop} (j e : Nat) (hl : l = j) (hh : h = e) (h1 : j ≤ e) (h2 : e ≤ c) (h3 : j < c) (hk : k (some ⟨b, j, none⟩) (e - j) (c - j)) : CutA (some ⟨b, 0, none⟩) l h c 1 k :=
  ⟨j, e, some ⟨b, j, none⟩, e - j, c - j, hl, hh, h1, h2, by rw [if_neg (by omega)]; simp [add_lit], rfl, rfl, hk⟩
/-- copy a slice of numbers to the start of an own block -/
theorem Ext.copyWs {T : Tab} {op : Op} {xs : List Operand} {h : Heap} {L : Own} {k : Value → Heap → Own → Prop} {dx sx : Operand} {dT sT e : TypeId} {z : List Value} {bytes : Nat}
    (hop : op = .call { callee := .builtin .copy, args := #[dx, sx], argTypes := #[dT, sT] }) (hxs : xs = [dx, sx]) (ht : T.und dT = some (.slice e)) (hi : T.inf e = some (z, bytes)) (hz : z.length = 1)
    (n : Nat) {b dLen dCap : Nat} {kd : IntKind} {old l : List Nat} {s : Sl} {ET : TypeId} (hn : L[n]? = some (b, Row kd ET old)) (hfit : dLen ≤ old.length) (hs : Ws kd h s l) (hl : l.length ≤ dLen)
    (hk : k (.int .i64 (l.length : Nat)) h (L.set n (b, Row kd ET (l ++ old.drop l.length)))) :
    Ext T op xs [.slice (some ⟨b, 0, none⟩) dLen dCap, s.val] h L k := by
  refine Ext.copy hop hxs ht hi hz n (old := old.map (vu kd)) hn (by simp; omega) (l.map (vu kd)) (by rw [hs.len]; simp; omega) (fun h0 => ?_) (by simp [vu, isOne]) ?_
  · obtain ⟨b', off, c, T', fz, h1, h2, h3⟩ := hs.mem (by rintro rfl; simp at h0)
    refine ⟨_, h1, fun j hj => ?_⟩
    rw [add_lit]
    refine Has.imm h2 ?_
    simp at hj
    rw [h3 j hj]; simp [hj, vu, List.getD_eq_getElem?_getD]
  · have e : (old.map (vu kd)).take 0 ++ l.map (vu kd) ++ (old.map (vu kd)).drop (0 + (l.map (vu kd)).length) = (l ++ old.drop l.length).map (vu kd) := by simp
    rw [e]; simpa only [List.length_map] using hk
end Go.Vc
namespace Go.Proofs.YteblflmnhegmjaaDoor
open Go Go.Vc Go.Dig

theorem cmp_lt0 {m n : Nat} (h : m < n) : cmpI m n = -1 := by simp [cmpI, h]
theorem cmp_ge0 {m n : Nat} (h : n ≤ m) : 0 ≤ cmpI m n ∧ cmpI m n ≤ 1 := by unfold cmpI; split <;> (try split) <;> omega
theorem one_digit {n : Nat} (h : ln 4294967296 n = 1) : (dg 4294967296 n).getD 0 0 = n ∧ 0 < n ∧ n < 4294967296 := by
  obtain ⟨x, hx⟩ : ∃ x, dg 4294967296 n = [x] := List.length_eq_one_iff.1 h
  have e := evl_dg two_le_B n
  rw [hx] at e
  have e : x = n := by simpa [evl_cons, evl_nil] using e
  have hlt := dg_lt two_le_B n x (by simp [hx])
  subst e
  refine ⟨by rw [hx]; rfl, ?_, hlt⟩
  rcases Nat.eq_zero_or_pos x with h0 | h0
  · rw [h0, ln_zero] at h; omega
  · exact h0
theorem ln_shl {m s : Nat} (hs : s ≤ 31) : ln 4294967296 (m * 2 ^ s) ≤ ln 4294967296 m + 1 := by
  have h1 : ln 4294967296 (2 ^ s) ≤ 1 := (ln_le_iff two_le_B).2 (Nat.lt_of_le_of_lt (Nat.pow_le_pow_right (by omega) hs) (by decide))
  have h2 := ln_mul two_le_B m (2 ^ s)
  omega

set_option maxRecDepth 20000 in
set_option maxHeartbeats 4000000 in
theorem Div_ct (h : Heap) (a b : Sl) (m n : Nat) (ha : IsNat h a m) (hb : IsNat h b n) (la : ln 4294967296 m ≤ 8589934592) (lb : ln 4294967296 n ≤ 8589934592) (h0 : n ≠ 0) :
    Fn0 T F.word_Nat_Div [a.val, b.val] h fun v h' => ∃ q r : Sl, v = .tuple #[q.val, r.val] ∧ IsNat h' q (m / n) ∧ IsNat h' r (m % n) := by
  have hal := ha.len
  have hbl := hb.len
  have hmn : n ≤ m → ln 4294967296 n ≤ ln 4294967296 m := fun hh => ln_mono two_le_B hh
  have hn1 : 1 ≤ ln 4294967296 n := Nat.pos_of_ne_zero fun e => h0 ((ln_eq_zero two_le_B).1 e)
  have hd1 := dg_getD_lt two_le_B n 0
  have hdt := dg_getD_lt two_le_B n (ln 4294967296 n - 1)
  have hlb : ln 4294967296 m < ln 4294967296 n → m < n := fun hh => lt_of_ln two_le_B hh
  refine fn0_of_codeI ok D.word_Nat_Div rfl ?_
  conv => whnf
  repeat ((first | refine opsI.step ?_ | refine codeI.step ?_); conv => whnf)
  by_cases hlt : m < n
  · refine CallN.fn rfl (Cmp_ct h a b m n ha hb (by omega) (by omega)) (fun v h' hl hr => ?_)
    obtain ⟨rfl, rfl⟩ := hr
    rw [cmp_lt0 hlt]
    conv => whnf
    repeat ((first | refine opsI.step ?_ | refine codeI.step ?_); conv => whnf)
    repeat' first
     | ((first | refine opsI.step ?_ | refine codeI.step ?_); conv => whnf)
     | (show cnd _ _ _; first
       | (refine cnd_lt (fun _ => ?_) (fun _ => ?_) <;> first | (exfalso; omega) | (conv => whnf)))
    exact RetN.all ⟨⟨none, 0, 0⟩, a, rfl, by rw [Nat.div_eq_of_lt hlt]; unfold IsNat; rw [dg_zero]; exact Ws.nil rfl, by rw [Nat.mod_eq_of_lt hlt]; exact ha⟩
  · refine CallN.fn rfl (Cmp_ct h a b m n ha hb (by omega) (by omega)) (fun v h' hl hr => ?_)
    obtain ⟨rfl, rfl⟩ := hr
    have hc := cmp_ge0 (m := m) (n := n) (by omega)
    replace hmn := hmn (by omega)
    obtain ⟨c, hcc⟩ : ∃ c, c = cmpI m n := ⟨_, rfl⟩
    rw [← hcc] at hc ⊢
    clear hcc
    conv => whnf
    repeat ((first | refine opsI.step ?_ | refine codeI.step ?_); conv => whnf)
    repeat' first
     | (show Idx _ _ _ _ _; first
       | (refine Idx.ws hb 0 (by omega) (by unfold ln at *; omega) (fun ad hv => ?_); conv => whnf)
       | (refine Idx.ws hb (ln 4294967296 n - 1) (by omega) (by unfold ln at *; omega) (fun ad hv => ?_); conv => whnf))
     | (show Ld _ _ _ _; first
       | (refine Ld.of (by first | exact hv _ | (rename_i hv; exact hv _)) ?_; conv => whnf))
     | ((first | refine opsI.step ?_ | refine codeI.step ?_); conv => whnf)
     | (show WrapN _ _ _; first
       | (refine WrapN.i64 (by omega) (by omega) ?_; conv => whnf))
     | (show cnd _ _ _; first
       | (refine cnd_lt (fun _ => ?_) (fun _ => ?_) <;> first | (exfalso; omega) | (conv => whnf))
       | (refine cnd_eq (fun _ => ?_) (fun _ => ?_) <;> first | (exfalso; omega) | (conv => whnf)))
    · obtain ⟨e1, e2, e3⟩ := one_digit (n := n) (by omega)
      refine CallN.fn rfl (DivSmall_ct _ a m ((dg 4294967296 n).getD 0 0) ha (by omega) hd1 (by omega)) (fun v h' hl hr => ?_)
      obtain ⟨q, rfl, hq⟩ := hr
      rw [e1] at hq ⊢
      have hr := Nat.mod_lt m e2
      obtain ⟨r, hrr⟩ : ∃ r, r = m % n := ⟨_, rfl⟩
      rw [← hrr] at hr ⊢
      conv => whnf
      repeat ((first | refine opsI.step ?_ | refine codeI.step ?_); conv => whnf)
      repeat' first
       | (show CallN _ _ _ _ _ _; first
         | (refine CallN.fn rfl (Small_ct _ r (by omega)) (fun v h' hl hr => ?_); obtain ⟨s', rfl, hs'⟩ := hr; conv => whnf))
       | ((first | refine opsI.step ?_ | refine codeI.step ?_); conv => whnf)
       | (show WrapN _ _ _; first
         | (refine WrapN.u64 (by omega) (by omega) ?_; conv => whnf))
      exact RetN.all ⟨q, _, rfl, hq.mono ‹_›, ‹_›⟩
    · refine CallN.fn rfl (LeadingZeros32_ct _ _ hdt) (fun v h' hl hr => ?_)
      obtain ⟨rfl, rfl⟩ := hr
      obtain ⟨t, ht⟩ : ∃ t, t = (dg 4294967296 n).getD (ln 4294967296 n - 1) 0 := ⟨_, rfl⟩
      obtain ⟨s, hs⟩ : ∃ s, s = 32 - bl t := ⟨_, rfl⟩
      obtain ⟨n1, n2, n3, n4, -⟩ := norm32 h0 rfl ht hs
      rw [← ht] at hdt ⊢
      clear ht
      rw [show (32 : Int) - (bl t : Nat) = (s : Nat) by omega]
      have hs31 : s ≤ 31 := by omega
      clear hs n3 n4 hdt hd1
      conv => whnf
      repeat ((first | refine opsI.step ?_ | refine codeI.step ?_); conv => whnf)
      refine CallN.fn rfl (Shl_ct _ b n s hb (by omega) (by omega)) (fun v h1 hle1 hr => ?_)
      obtain ⟨dd, rfl, hdd⟩ := hr
      have hshl := ln_shl (m := m) hs31
      have hDpos : 0 < n * 2 ^ s := Nat.mul_pos (by omega) (Nat.two_pow_pos s)
      have hstart := Hq.mk (div_start (b := 4294967296) (m := m) (n := n) (s := s) (la := ln 4294967296 m) (lb := ln 4294967296 n) two_le_B (lt_pow_ln two_le_B m) (pow_le_of_ln two_le_B (by omega)) (by omega) hmn)
      obtain ⟨D, hD⟩ : ∃ D, D = n * 2 ^ s := ⟨_, rfl⟩
      obtain ⟨E, hE⟩ : ∃ E, E = m * 2 ^ s := ⟨_, rfl⟩
      rw [← hD] at hdd n1 n2 hstart hDpos
      rw [← hE] at hstart hshl
      replace hD := Hq.mk hD
      have hdl := hdd.len
      conv => whnf
      repeat ((first | refine opsI.step ?_ | refine codeI.step ?_); conv => whnf)
      repeat' first
       | (show Mk _ _ _; first
         | (refine Mk.of (ln 4294967296 m + 1) (by omega) (by omega) (by omega) ?_; conv => whnf))
       | (refine ⟨Nat.le_refl _, ?_⟩; conv => whnf)
       | (intro (bu : Nat); conv => whnf)
       | ((first | refine opsI.step ?_ | refine codeI.step ?_); conv => whnf)
       | (show WrapN _ _ _; first
         | (refine WrapN.i64 (by omega) (by omega) ?_; conv => whnf))
      rename_i bu
      refine CallN.fn rfl (Shl_ct _ a m s (ha.mono hle1) (by omega) (by omega)) (fun v h2 hle2 hr => ?_)
      obtain ⟨ee, rfl, hee⟩ := hr
      rw [← hE] at hee
      replace hE := Hq.mk hE
      conv => whnf
      repeat ((first | refine opsI.step ?_ | refine codeI.step ?_); conv => whnf)
      refine Ext.copyWs rfl rfl rfl rfl rfl 0 (old := List.replicate (ln 4294967296 m + 1) 0) (by rw [row_new]; rfl) (by simp) hee (by unfold ln at *; omega) ?_
      obtain ⟨o0, ho0⟩ : ∃ o0, o0 = dg 4294967296 E ++ (List.replicate (ln 4294967296 m + 1) 0).drop (dg 4294967296 E).length := ⟨_, rfl⟩
      rw [← ho0]
      have ol : o0.length = ln 4294967296 m + 1 := by rw [ho0]; simp; unfold ln at *; omega
      have oB : ∀ x ∈ o0, x < 4294967296 := by
        rw [ho0]; intro x hx
        rcases List.mem_append.1 hx with hx | hx
        · exact dg_lt two_le_B _ _ hx
        · have := List.mem_of_mem_drop hx; simp at this; omega
      have oE : evl 4294967296 o0 = E := by
        rw [ho0, evl_append, evl_zeros 4294967296 (l := (List.replicate (ln 4294967296 m + 1) 0).drop _) (fun x hx => by have := List.mem_of_mem_drop hx; simp at this; omega), Nat.mul_zero, Nat.add_zero, evl_dg two_le_B]
      clear ho0
      have hs0 : evl 4294967296 (o0.drop (ln 4294967296 m - ln 4294967296 n + 1)) < D := by rw [evl_div two_le_B oB, oE]; exact hstart.out
      clear hstart
      conv => whnf
      repeat ((first | refine opsI.step ?_ | refine codeI.step ?_); conv => whnf)
      repeat' first
       | (show Mk _ _ _; first
         | (refine Mk.of (ln 4294967296 m - ln 4294967296 n + 1) (by omega) (by omega) (by omega) ?_; conv => whnf))
       | (refine ⟨Nat.le_refl _, ?_⟩; conv => whnf)
       | (intro (bq : Nat); conv => whnf)
       | ((first | refine opsI.step ?_ | refine codeI.step ?_); conv => whnf)
       | (show WrapN _ _ _; first
         | (refine WrapN.i64 (by omega) (by omega) ?_; conv => whnf))
      rename_i bq
      refine LoopN.of (fun r ρ h' L => ∃ (o qs : List Nat), h' = h2 ∧ L = [(bq, Row .u32 Ty.uint32 qs), (bu, Row .u32 Ty.uint32 o)] ∧ rd ρ 12 = .int .i64 ((r : Int) - 1) ∧ r ≤ ln 4294967296 m - ln 4294967296 n + 1 ∧ o.length = ln 4294967296 m + 1 ∧ (∀ x ∈ o, x < 4294967296) ∧ qs.length = ln 4294967296 m - ln 4294967296 n + 1 ∧ (∀ x ∈ qs, x < 4294967296) ∧ Hq (evl 4294967296 (o.drop r) < D) ∧ Hq (evl 4294967296 (o.drop r) + D * evl 4294967296 (qs.drop r) = evl 4294967296 (o0.drop r)) ∧ o.take r = o0.take r) (ln 4294967296 m - ln 4294967296 n + 1)
        ⟨o0, List.replicate (ln 4294967296 m - ln 4294967296 n + 1) 0, rfl, by rw [row_new]; rfl, vi (by omega), Nat.le_refl _, ol, oB, by simp, by simp, ⟨hs0⟩, ⟨by rw [evl_zeros 4294967296 (l := (List.replicate (ln 4294967296 m - ln 4294967296 n + 1) 0).drop _) (fun x hx => by have := List.mem_of_mem_drop hx; simp at this; omega), Nat.mul_zero, Nat.add_zero]⟩, rfl⟩ ?_
      conv => whnf
      repeat intro _
      rename_i k h3 L3 hI
      obtain ⟨o, qs, rfl, rfl, e0, hk, hol, hoB, hql, hqB, hlt', heq, htk⟩ := hI
      conv at e0 => lhs; whnf
      subst e0
      by_cases hk0 : k = 0
      · subst hk0
        conv => whnf
        repeat ((first | refine opsI.step ?_ | refine codeI.step ?_); conv => whnf)
        repeat' first
         | ((first | refine opsI.step ?_ | refine codeI.step ?_); conv => whnf)
         | (show cnd _ _ _; first
           | (refine cnd_le (fun _ => ?_) (fun _ => ?_) <;> first | (exfalso; omega) | (conv => whnf)))
        rw [List.drop_zero, List.drop_zero, List.drop_zero, oE, hE.out, hD.out] at heq
        rw [List.drop_zero, hD.out] at hlt'
        obtain ⟨r1, r2, -⟩ := div_fin heq.out hlt'.out
        refine CallN.keep 0 rfl rfl fun hle3 => ?_
        refine CallN.fn rfl (Of_ct _ ⟨some ⟨bq, 0, none⟩, ln 4294967296 m - ln 4294967296 n + 1, ln 4294967296 m - ln 4294967296 n + 1⟩ qs (Ws.row (by omega)) hqB (by omega)) (fun v h4 hle4 hr => ?_)
        obtain ⟨q', rfl, hq'⟩ := hr
        conv => whnf
        repeat ((first | refine opsI.step ?_ | refine codeI.step ?_); conv => whnf)
        refine CallN.keep 0 rfl rfl fun hle5 => ?_
        refine CallN.fn rfl (Of_ct _ ⟨some ⟨bu, 0, none⟩, ln 4294967296 m + 1, ln 4294967296 m + 1⟩ o (Ws.row (by omega)) hoB (by omega)) (fun v h6 hle6 hr => ?_)
        obtain ⟨u', rfl, hu'⟩ := hr
        have hlu : ln 4294967296 (evl 4294967296 o) ≤ ln 4294967296 m + 1 := by rw [← hol]; exact (ln_le_iff two_le_B).2 (evl_lt two_le_B hoB)
        conv => whnf
        repeat ((first | refine opsI.step ?_ | refine codeI.step ?_); conv => whnf)
        refine CallN.fn rfl (Shr_ct _ u' (evl 4294967296 o) s hu' (by omega) (by omega)) (fun v h7 hle7 hr => ?_)
        obtain ⟨r', rfl, hr'⟩ := hr
        rw [r2] at hr'
        rw [r1] at hq'
        conv => whnf
        repeat ((first | refine opsI.step ?_ | refine codeI.step ?_); conv => whnf)
        exact RetN.all ⟨q', r', rfl, ((hq'.mono hle5).mono hle6).mono hle7, hr'⟩
      · obtain ⟨j, rfl⟩ : ∃ j, k = j + 1 := ⟨k - 1, by omega⟩
        obtain ⟨p, u, rfl, rfl⟩ : ∃ p u, o = p ++ u ∧ p.length = j := ⟨o.take j, o.drop j, (List.take_append_drop j o).symm, by simp; omega⟩
        have hul : p.length + u.length = ln 4294967296 m + 1 := by simpa using hol
        have huB : ∀ x ∈ u, x < 4294967296 := fun x hx => hoB x (List.mem_append_right _ hx)
        have hpB : ∀ x ∈ p, x < 4294967296 := fun x hx => hoB x (List.mem_append_left _ hx)
        obtain ⟨x, u1, rfl⟩ : ∃ x u1, u = x :: u1 := by
          match u, hul with
          | [], h => simp at h; omega
          | x :: u1, _ => exact ⟨x, u1, rfl⟩
        have hdr : (p ++ x :: u1).drop (p.length + 1) = u1 := by rw [List.drop_append]; simp
        rw [hdr] at heq hlt'
        have hxB := huB x (by simp)
        have hx0 : o0.getD p.length 0 = x := by
          have := congrArg (fun l => l.getD p.length 0) htk
          simpa [List.getD_eq_getElem?_getD, List.getElem?_take] using this.symm
        have hE0 := evl_drop (b := 4294967296) (l := o0) (k := p.length) (by omega)
        rw [hx0] at hE0
        have hUD : evl 4294967296 (x :: u1) < D * 4294967296 := by
          rw [evl_cons]
          have : (evl 4294967296 u1 + 1) * 4294967296 ≤ D * 4294967296 := Nat.mul_le_mul_right _ hlt'.out
          rw [Nat.add_mul, Nat.mul_comm] at this; omega
        have hUq := Nat.div_add_mod (evl 4294967296 (x :: u1)) D
        have hqB' : evl 4294967296 (x :: u1) / D < 4294967296 := (Nat.div_lt_iff_lt_mul hDpos).2 (by rw [Nat.mul_comm]; exact hUD)
        have hrD := Nat.mod_lt (evl 4294967296 (x :: u1)) hDpos
        obtain ⟨q, hq⟩ : ∃ q, q = evl 4294967296 (x :: u1) / D := ⟨_, rfl⟩
        obtain ⟨r, hr⟩ : ∃ r, r = evl 4294967296 (x :: u1) % D := ⟨_, rfl⟩
        rw [← hq] at hUq hqB'
        rw [← hr] at hUq hrD
        rw [Nat.mul_comm] at hUq
        have hstep := Hq.mk (div_step heq.out (evl_cons _ _ _) hE0 hUq.symm)
        replace hUq := Hq.mk hUq
        replace hE0 := Hq.mk hE0
        replace hrD := Hq.mk hrD
        have hmm : ln 4294967296 D = (ln 4294967296 n - 2) + 2 := by omega
        replace hq := Hq.mk hq
        replace hr := Hq.mk hr
        replace hUD := Hq.mk hUD
        replace hx0 := Hq.mk hx0
        replace htk := Hq.mk htk
        replace oE := Hq.mk oE
        replace huB := Hq.mk huB
        replace hpB := Hq.mk hpB
        replace hlb := Hq.mk hlb
        replace hc := Hq.mk hc
        replace hs0 := Hq.mk hs0
        rw [show ln 4294967296 n - 1 = (ln 4294967296 n - 2) + 1 by omega] at n2
        conv => whnf
        repeat ((first | refine opsI.step ?_ | refine codeI.step ?_); conv => whnf)
        repeat' first
         | (show CutA _ _ _ _ _ _; first
           | (refine CutA.own p.length (p.length + ln 4294967296 n + 1) (by omega) (by omega) (by omega) (by omega) (by omega) ?_; conv => whnf))
         | ((first | refine opsI.step ?_ | refine codeI.step ?_); conv => whnf)
         | (show WrapN _ _ _; first
           | (refine WrapN.i64 (by omega) (by omega) ?_; conv => whnf))
         | (show cnd _ _ _; first
           | (refine cnd_le (fun _ => ?_) (fun _ => ?_) <;> first | (exfalso; omega) | (conv => whnf)))
        rw [show p.length + ln 4294967296 n + 1 - p.length = (ln 4294967296 n - 2) + 3 by omega]
        refine CallN.own 1 rfl rfl (digit_ct _ bu _ p (x :: u1) dd D (ln 4294967296 n - 2) (hdd.mono hle2) hmm (by omega) n2 (by omega) (by omega) huB.out hUD.out) (fun v h4 La hle4 hr4 => ?_)
        obtain ⟨u', e1, e2, e3, hul', huB', hu'e⟩ := hr4
        rw [← hr.out] at hu'e
        rw [← hq.out] at e3
        subst e1 e2 e3
        refine ⟨_, rfl, ?_⟩
        conv => whnf
        repeat ((first | refine opsI.step ?_ | refine codeI.step ?_); conv => whnf)
        repeat' first
         | (show Idx _ _ _ _ _; first
           | (refine Idx.own p.length (by omega) (by omega) ?_; conv => whnf))
         | (show Sto _ _ _ _; first
           | (refine Sto.ws 0 rfl q (by omega) (by omega) ?_; conv => whnf))
         | ((first | refine opsI.step ?_ | refine codeI.step ?_); conv => whnf)
         | (show WrapN _ _ _; first
           | (refine WrapN.i64 (by omega) (by omega) ?_; conv => whnf))
        refine ⟨rfl, p.length, by omega, p ++ u', qs.set p.length q, rfl, rfl, vi (by omega), by omega, by rw [List.length_append, hul']; exact hul, ?_, by simp [hql], mem_set_lt hqB hqB', ⟨?_⟩, ⟨?_⟩, ?_⟩
        · intro y hy
          rcases List.mem_append.1 hy with hy | hy
          · exact hpB.out y hy
          · exact huB' y hy
        · rw [List.drop_left, hu'e]; exact hrD.out
        · rw [List.drop_left, hu'e, evl_drop (k := p.length) (l := qs.set p.length q) (by simp; omega), getD_set_self _ (by omega), drop_set]; exact hstep.out
        · have := congrArg (fun l => l.take p.length) htk.out
          simp only [List.take_take, Nat.min_eq_left (Nat.le_succ p.length)] at this
          rw [← this, List.take_left, List.take_left]

/-- how two numbers' common divisors are found: the last remainder -/
theorem gcd_step (m n : Nat) : Nat.gcd n (m % n) = Nat.gcd m n := by rw [Nat.gcd_comm, ← Nat.gcd_rec, Nat.gcd_comm]

set_option maxRecDepth 20000 in
theorem GCD_ct (h : Heap) (a b : Sl) (m n : Nat) (ha : IsNat h a m) (hb : IsNat h b n) (la : ln 4294967296 m ≤ 8589934592) (lb : ln 4294967296 n ≤ 8589934592) :
    Fn0 T F.word_Nat_GCD [a.val, b.val] h fun v h' => ∃ s : Sl, v = s.val ∧ IsNat h' s (Nat.gcd m n) := by
  refine fn0_of_codeI ok D.word_Nat_GCD rfl ?_
  conv => whnf
  repeat ((first | refine opsI.step ?_ | refine codeI.step ?_); conv => whnf)
  refine LoopN.of (fun r ρ h' L => ∃ (a b : Sl) (m' n' : Nat), r = n' ∧ L = [] ∧ h.le h' ∧ rd ρ 0 = a.val ∧ rd ρ 1 = b.val ∧ IsNat h' a m' ∧ IsNat h' b n' ∧ ln 4294967296 m' ≤ 8589934592 ∧ ln 4294967296 n' ≤ 8589934592 ∧ Hq (Nat.gcd m' n' = Nat.gcd m n)) n
    ⟨a, b, m, n, rfl, rfl, Heap.le_refl _, rfl, rfl, ha, hb, la, lb, ⟨rfl⟩⟩ ?_
  conv => whnf
  repeat intro _
  rename_i r h1 L1 hI
  obtain ⟨a, b, m', n', rfl, rfl, hle, e0, e1, ha, hb, la, lb, hg⟩ := hI
  conv at e0 => lhs; whnf
  subst e0
  conv at e1 => lhs; whnf
  subst e1
  have hbl := hb.len
  have hz := ln_eq_zero two_le_B (n := r)
  by_cases h0 : r = 0
  · have := hz.2 h0
    clear hz
    conv => whnf
    repeat ((first | refine opsI.step ?_ | refine codeI.step ?_); conv => whnf)
    repeat' first
     | ((first | refine opsI.step ?_ | refine codeI.step ?_); conv => whnf)
     | (show cnd _ _ _; first
       | (refine cnd_lt (fun _ => ?_) (fun _ => ?_) <;> first | (exfalso; omega) | (conv => whnf)))
    refine RetN.all ⟨a, rfl, ?_⟩
    rw [← hg.out, h0, Nat.gcd_zero_right]; exact ha
  · have : ln 4294967296 r ≠ 0 := fun e => h0 (hz.1 e)
    clear hz
    have hmod := Nat.mod_lt m' (Nat.pos_of_ne_zero h0)
    have hlm := ln_mono two_le_B (Nat.le_of_lt hmod)
    conv => whnf
    repeat ((first | refine opsI.step ?_ | refine codeI.step ?_); conv => whnf)
    repeat' first
     | (show CallN _ _ _ _ _ _; first
       | (refine CallN.fn rfl (Div_ct _ _ _ _ _ (by assumption) (by assumption) (by omega) (by omega) (by omega)) (fun v h' hl hr => ?_); obtain ⟨q', r', rfl, hq', hr'⟩ := hr; conv => whnf))
     | ((first | refine opsI.step ?_ | refine codeI.step ?_); conv => whnf)
     | (show cnd _ _ _; first
       | (refine cnd_lt (fun _ => ?_) (fun _ => ?_) <;> first | (exfalso; omega) | (conv => whnf)))
    exact ⟨rfl, m' % r, hmod, b, _, r, m' % r, rfl, rfl, Heap.le_trans hle ‹_›, rfl, rfl, hb.mono ‹_›, ‹_›, by omega, by omega, ⟨by rw [gcd_step]; exact hg.out⟩⟩
end Go.Proofs.YteblflmnhegmjaaDoor
