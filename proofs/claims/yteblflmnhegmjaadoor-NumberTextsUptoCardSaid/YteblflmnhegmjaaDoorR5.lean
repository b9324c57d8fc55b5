/- Contracts of the reference's functions on natural numbers (digits to the base 65536), fifth part: one digit of long division. -/
import Derived.Test.YteblflmnhegmjaaDoorR4
import Derived.Test.YteblflmnhegmjaaDoorW5
set_option linter.unusedVariables false
set_option linter.unusedSimpArgs false
namespace Go.Vc
open Go Go.Dig
/-- own memory that holds numbers, and something behind them -/
abbrev RowZ (kd : IntKind) (T : TypeId) (o : List Nat) (zs : List Value) : Obj := .cells (o.map (vu kd) ++ zs).toArray T (0, 0)
theorem rowz_get {kd : IntKind} {o : List Nat} {zs : List Value} {j : Nat} (hj : j < o.length) : (o.map (vu kd) ++ zs).toArray[j]? = some (.int kd ((o.getD j 0 : Nat) : Int)) := by
  rw [List.getElem?_toArray, List.getElem?_append_left (by simpa using hj)]
  simp [hj, vu, List.getD_eq_getElem?_getD]
theorem Ld.winZ {h : Heap} {L : Own} {b i : Nat} {k : Value → Prop} {kd : IntKind} {T : TypeId} {p u : List Nat} {zs : List Value} (n : Nat) (hb : L[n]? = some (b, RowZ kd T (p ++ u) zs)) (ho : i < u.length) (hk : k (.int kd ((u.getD i 0 : Nat) : Int))) : Ld h L ⟨b, p.length + i, none⟩ k :=
  Ld.own n hb (rowz_get (by simp; omega)) (by rw [win_get ho]; exact hk)
theorem Sto.winZ {L : Own} {b i : Nat} {kd : IntKind} {T : TypeId} {p u : List Nat} {zs : List Value} {v : Int} {k : Own → Prop} (n : Nat) (hb : L[n]? = some (b, RowZ kd T (p ++ u) zs)) (x : Nat) (hx : v = x) (hl : i < u.length)
    (hk : setK (b, RowZ kd T (p ++ u.set i x) zs) L n k) : Sto L ⟨b, p.length + i, none⟩ [.int kd v] k := by
  subst hx
  refine Sto.sym n hb (by simp; omega) rfl ?_
  have : ((p ++ u).map (vu kd) ++ zs).set (p.length + i) (.int kd x) = (p ++ u.set i x).map (vu kd) ++ zs := by
    rw [List.set_append_left _ _ (by simp; omega), ← win_set, List.map_set]; rfl
  rw [this]; exact hk
end Go.Vc
namespace Go.Dig
theorem guess16 {P top v1 D U dl ul : Nat} (hD : D = dl + P * v1) (hU : U = ul + P * top) (hul : ul < P) (hv : 0 < v1) : U / D ≤ top / v1 := by
  have hP : 0 < P := by omega
  rw [Nat.le_div_iff_mul_le hv]
  have h1 : U / D * D ≤ U := Nat.div_mul_le_self _ _
  have h2 : U / D * (P * v1) ≤ U / D * D := by
    refine Nat.mul_le_mul_left _ ?_
    rw [hD]; exact Nat.le_add_left _ _
  have h3 : P * (U / D * v1) < P * (top + 1) := by
    rw [Nat.mul_left_comm, Nat.mul_add, Nat.mul_one]; omega
  have := Nat.lt_of_mul_lt_mul_left h3
  omega
theorem sub16_step {b : Nat} {w u dd : List Nat} {k e e' G x : Nat} (hk : k < w.length) (hx : x + G * dd.getD k 0 + e = u.getD k 0 + e' * b)
    (h : evl b (w.take k) + G * evl b (dd.take k) = evl b (u.take k) + e * b ^ k) :
    evl b ((w.set k x).take (k + 1)) + G * evl b (dd.take (k + 1)) = evl b (u.take (k + 1)) + e' * b ^ (k + 1) := by
  rw [evl_take_set _ hk, evl_take_next dd, evl_take_next u, Nat.mul_add, Nat.pow_succ]
  have e1 : e * b ^ k = b ^ k * e := Nat.mul_comm _ _
  have e2 : G * (b ^ k * dd.getD k 0) = b ^ k * (G * dd.getD k 0) := Nat.mul_left_comm _ _ _
  have e3 : e' * (b ^ k * b) = b ^ k * (e' * b) := by rw [Nat.mul_left_comm]
  have e4 : b ^ k * (x + G * dd.getD k 0 + e) = b ^ k * (u.getD k 0 + e' * b) := by rw [hx]
  simp only [Nat.mul_add] at e4
  rw [e1] at h
  rw [e2, e3]
  omega
end Go.Dig
namespace Go.Proofs.YteblflmnhegmjaaDoor
open Go Go.Vc Go.Dig

set_option maxRecDepth 20000 in
set_option maxHeartbeats 2000000 in
theorem rdigit_ct (h : Heap) (b cap : Nat) (p u : List Nat) (zs : List Value) (d : Sl) (Dv m : Nat) (hd : IsRef h d Dv) (hm : ln 65536 Dv = m + 1) (la : ln 65536 Dv ≤ 8589934592) (hul : m + 2 ≤ u.length) (hpl : p.length ≤ 17179869184) (huB : ∀ x ∈ u, x < 65536) (hUD : evl 65536 u < Dv * 65536) (hcap : m + 2 ≤ cap) :
    Vc.Fn T F.ref01_digit [.slice (some ⟨b, p.length, none⟩) (m + 2) cap, d.val] h [(b, RowZ .u32 Ty.uint32 (p ++ u) zs)] fun v h' L' => ∃ u' : List Nat, L' = [(b, RowZ .u32 Ty.uint32 (p ++ u') zs)] ∧ v = .int .u32 (evl 65536 u / Dv : Nat) ∧ u'.length = u.length ∧ (∀ x ∈ u', x < 65536) ∧ evl 65536 u' = evl 65536 u % Dv := by
  have hdl := hd.len
  have hv1B := dg_getD_lt two_le_b Dv m
  have hu0 := getD_lt (b := 65536) (by omega) huB (m + 1)
  have hu1 := getD_lt (b := 65536) (by omega) huB m
  have hD0 : 0 < Dv := by
    rcases Nat.eq_zero_or_pos Dv with h0 | h0
    · rw [h0, ln_zero] at hm; omega
    · exact h0
  have hDB : Dv < 65536 ^ (m + 1) := by rw [← hm]; exact lt_pow_ln two_le_b Dv
  have hv1 : 0 < (dg 65536 Dv).getD m 0 := by
    rw [dg_getD two_le_b, Nat.mod_eq_of_lt]
    · exact Nat.div_pos (pow_le_of_ln two_le_b (by omega)) (Nat.pow_pos (by decide))
    · rw [Nat.div_lt_iff_lt_mul (Nat.pow_pos (by decide)), Nat.mul_comm, ← Nat.pow_succ]; exact hDB
  have htop : Hq (evl 65536 (u.drop (m + 2)) = 0) := ⟨by
    rw [evl_div two_le_b huB]
    refine Nat.div_eq_of_lt (Nat.lt_of_lt_of_le hUD ?_)
    rw [Nat.pow_succ 65536 (m + 1)]; exact Nat.mul_le_mul_right _ (Nat.le_of_lt hDB)⟩
  have hUt : Hq (evl 65536 u = evl 65536 (u.take (m + 2))) := ⟨by rw [evl_split hul, htop.out, Nat.mul_zero, Nat.add_zero]⟩
  obtain ⟨un, hun⟩ : ∃ un, un = u.getD (m + 1) 0 := ⟨_, rfl⟩
  obtain ⟨u1, hu1e⟩ : ∃ u1, u1 = u.getD m 0 := ⟨_, rfl⟩
  obtain ⟨v1, hv1e⟩ : ∃ v1, v1 = (dg 65536 Dv).getD m 0 := ⟨_, rfl⟩
  obtain ⟨top, htp⟩ : ∃ top, top = un * 65536 + u1 := ⟨_, rfl⟩
  obtain ⟨t0, ht0⟩ : ∃ t0, t0 = un * 65536 := ⟨_, rfl⟩
  obtain ⟨g0, hg0⟩ : ∃ g0, g0 = top / v1 := ⟨_, rfl⟩
  obtain ⟨q, hq⟩ : ∃ q, q = evl 65536 u / Dv := ⟨_, rfl⟩
  obtain ⟨U, hU⟩ : ∃ U, U = evl 65536 u := ⟨_, rfl⟩
  have hqB : q < 65536 := by rw [hq]; exact (Nat.div_lt_iff_lt_mul hD0).2 (by rw [Nat.mul_comm]; exact hUD)
  have hqg : q ≤ g0 := by
    rw [hq, hg0, htp, hun, hu1e, hv1e]
    refine guess16 (P := 65536 ^ m) (dl := evl 65536 ((dg 65536 Dv).take m)) (ul := evl 65536 (u.take m)) ?_ ?_ ?_ hv1
    · rw [← evl_take_next, ← hm]; exact (evl_all two_le_b (Nat.le_refl _)).symm
    · rw [hUt.out, top2]
    · have := evl_lt two_le_b (l := u.take m) fun x hx => huB x (List.mem_of_mem_take hx)
      rwa [show (u.take m).length = m by simp; omega] at this
  have hgb : g0 ≤ top := by rw [hg0]; exact Nat.div_le_self _ _
  have eq1 : ((top : Int) / (v1 : Int)) = (g0 : Int) := by rw [hg0]; rfl
  have hlq : ∀ g, ¬ (U < Dv * g) → g ≤ q := fun g hh => by
    rw [hq, ← hU, Nat.le_div_iff_mul_le hD0, Nat.mul_comm]; omega
  have hlq2 : ∀ g, U < Dv * g → q < g := fun g hh => by
    rw [hq, ← hU, Nat.div_lt_iff_lt_mul hD0, Nat.mul_comm]; exact hh
  have hmod : Hq (q * Dv + U % Dv = U ∧ U % Dv < Dv) := ⟨by rw [hq, ← hU, Nat.mul_comm]; exact ⟨Nat.div_add_mod _ _, Nat.mod_lt _ hD0⟩⟩
  rw [← hq]
  rw [← hun] at hu0
  rw [← hu1e] at hu1
  rw [← hv1e] at hv1B hv1
  replace hg0 := Hq.mk hg0
  replace hq := Hq.mk hq
  replace hun := Hq.mk hun
  replace hu1e := Hq.mk hu1e
  replace hv1e := Hq.mk hv1e
  replace hlq := Hq.mk hlq
  replace hlq2 := Hq.mk hlq2
  replace hUD := Hq.mk hUD
  replace hDB := Hq.mk hDB
  replace huB := Hq.mk huB
  refine fn_of_codeI ok D.ref01_digit rfl ?_
  conv => whnf
  repeat ((first | refine opsI.step ?_ | refine codeI.step ?_); conv => whnf)
  repeat' first
   | (show WrapN _ _ _; first
     | (refine WrapN.u64w t0 (by omega) ?_; conv => whnf)
     | (refine WrapN.u64w top (by omega) ?_; conv => whnf)
     | (refine WrapN.i64 (by omega) (by omega) ?_; conv => whnf)
     | (refine WrapN.u64 (by omega) (by omega) ?_; conv => whnf))
   | (show QuoN _ _ _ _; first
     | (refine QuoN.u64 (by omega) (by omega) (by omega) ?_; rw [eq1]; conv => whnf))
   | (show Idx _ _ _ _ _; first
     | (refine Idx.one (m + 1) rfl (by omega) (by omega) ?_; conv => whnf)
     | (refine Idx.one m rfl (by omega) (by omega) ?_; conv => whnf)
     | (refine Idx.ws hd m (by omega) (by unfold ln at *; omega) (fun ad hv => ?_); conv => whnf))
   | (show Ld _ _ _ _; first
     | (refine Ld.winZ 0 rfl (by omega) ?_; first | rw [← hun.out] | rw [← hu1e.out]; conv => whnf)
     | (refine Ld.of (by first | exact hv _ | (rename_i hv; exact hv _)) ?_; rw [← hv1e.out]; conv => whnf))
   | ((first | refine opsI.step ?_ | refine codeI.step ?_); conv => whnf)
   | (show DrawN _ _ _ _ _ _; first
     | (refine DrawN.run (by decide +kernel) ?_; conv => whnf))
  refine SeqN.cut (fun ρ h' L => ∃ G : Nat, h' = h ∧ L = [(b, RowZ .u32 Ty.uint32 (p ++ u) zs)] ∧ rd ρ 7 = .int .u64 G ∧ q ≤ G ∧ G < 65536) ?_ ?_
  · conv => whnf
    repeat ((first | refine opsI.step ?_ | refine codeI.step ?_); conv => whnf)
    repeat' first
     | ((first | refine opsI.step ?_ | refine codeI.step ?_); conv => whnf)
     | (show cnd _ _ _; first
       | (refine cnd_le (fun _ => ?_) (fun _ => ?_) <;> first | (exfalso; omega) | (conv => whnf)))
    · exact ⟨rfl, 65536 - 1, rfl, rfl, rfl, by omega, by omega⟩
    · exact ⟨rfl, g0, rfl, rfl, rfl, by omega, by omega⟩
  conv => whnf
  repeat intro _
  rename_i h1 L1 hJ
  obtain ⟨G, rfl, rfl, e0, hqG, hGb⟩ := hJ
  conv at e0 => lhs; whnf
  subst e0
  conv => whnf
  repeat ((first | refine opsI.step ?_ | refine codeI.step ?_); conv => whnf)
  have hw : ∀ h' : Heap, Ws .u32 (h'.put b (RowZ .u32 Ty.uint32 (p ++ u) zs)) ⟨some ⟨b, p.length, none⟩, m + 2, cap⟩ (u.take (m + 2)) := fun h' =>
    ⟨by simp; omega, hcap, fun _ => ⟨b, p.length, ((p ++ u).map (vu .u32) ++ zs).toArray, Ty.uint32, (0, 0), rfl, by simp only [Heap.put, if_true], fun j hj => by
      have hj2 : j < m + 2 ∧ j < u.length := by simp at hj; omega
      rw [rowz_get (by simp; omega), win_get hj2.2]
      simp [List.getD_eq_getElem?_getD, List.getElem?_take, hj2.1]⟩⟩
  have htB : ∀ x ∈ u.take (m + 2), x < 65536 := fun x hx => huB.out x (List.mem_of_mem_take hx)
  have hdu : IsRef h1 d Dv := hd
  replace htB := Hq.mk htB
  replace hw := Hq.mk hw
  refine LoopN.of (fun r ρ h' L => h1.le h' ∧ L = [(b, RowZ .u32 Ty.uint32 (p ++ u) zs)] ∧ rd ρ 7 = .int .u64 r ∧ q ≤ r ∧ r < 65536) G ⟨Heap.le_refl _, rfl, rfl, hqG, hGb⟩ ?_
  conv => whnf
  repeat intro _
  rename_i r h2 L2 hI
  obtain ⟨hle2, rfl, e0, hqr, hrb⟩ := hI
  conv at e0 => lhs; whnf
  subst e0
  conv => whnf
  repeat ((first | refine opsI.step ?_ | refine codeI.step ?_); conv => whnf)
  skip
  refine CallN.lend 0 rfl rfl (fun hle3 => less_ct _ ⟨some ⟨b, p.length, none⟩, m + 2, cap⟩ d (u.take (m + 2)) Dv r (hw.out _) htB.out (by simp; omega) ((hdu.mono hle2).mono hle3) la (by omega)) fun v h3 hle3 e => ?_
  rw [e, ← hUt.out, ← hU]
  clear e
  conv => whnf
  repeat ((first | refine opsI.step ?_ | refine codeI.step ?_); conv => whnf)
  refine cnd_dec (fun hlt => ?_) (fun hge => ?_)
  · have := hlq2.out _ hlt
    conv => whnf
    repeat ((first | refine opsI.step ?_ | refine codeI.step ?_); conv => whnf)
    repeat' first
     | ((first | refine opsI.step ?_ | refine codeI.step ?_); conv => whnf)
     | (show WrapN _ _ _; first
       | (refine WrapN.u64 (by omega) (by omega) ?_; conv => whnf))
    exact ⟨rfl, r - 1, by omega, Heap.le_trans hle2 hle3, rfl, vi (by omega), by omega, by omega⟩
  · obtain rfl : r = q := by have := hlq.out _ hge; omega
    conv => whnf
    repeat ((first | refine opsI.step ?_ | refine codeI.step ?_); conv => whnf)
    skip
    clear hge hqG hqr hqg hlq hlq2 hw htB hv hgb eq1
    refine LoopN.of (fun t ρ h' L => ∃ (k : Nat) (w : List Nat) (e : Nat), t = m + 2 - k ∧ h' = h3 ∧ L = [(b, RowZ .u32 Ty.uint32 (p ++ w) zs)] ∧ rd ρ 44 = .int .i64 k ∧ rd ρ 8 = .int .i64 (-(e : Int)) ∧ k ≤ m + 2 ∧ w.length = u.length ∧ (∀ x ∈ w, x < 65536) ∧ e < 65536 ∧ Hq (w.drop k = u.drop k) ∧ Hq (evl 65536 (w.take k) + r * evl 65536 ((dg 65536 Dv).take k) = evl 65536 (u.take k) + e * 65536 ^ k)) (m + 2)
      ⟨0, u, 0, rfl, rfl, rfl, rfl, rfl, by omega, rfl, huB.out, by omega, ⟨rfl⟩, ⟨by simp [evl_nil]⟩⟩ ?_
    conv => whnf
    repeat intro _
    rename_i t h4 L4 hI
    obtain ⟨k, w, e, rfl, rfl, rfl, e0, e1, hk, hwl, hwB, heB, hwd, heq⟩ := hI
    conv at e0 => lhs; whnf
    subst e0
    conv at e1 => lhs; whnf
    subst e1
    have hdk := dg_getD_lt two_le_b Dv k
    have hz := ln_or16 k Dv
    have huk := getD_lt (b := 65536) (by omega) huB.out k
    have hwk : Hq (w.getD k 0 = u.getD k 0) := ⟨getD_of_drop hwd.out (Nat.le_refl _)⟩
    have hdd := (hdu.mono hle2).mono hle3
    obtain ⟨x, hx⟩ : ∃ x, x = u.getD k 0 := ⟨_, rfl⟩
    obtain ⟨y, hy⟩ : ∃ y, y = (dg 65536 Dv).getD k 0 := ⟨_, rfl⟩
    rw [← hx] at huk hwk
    rw [← hy] at hz hdk
    replace hx := Hq.mk hx
    replace hy := Hq.mk hy
    have hprod : r * y ≤ 65535 * 65535 := Nat.mul_le_mul (by omega) (by omega)
    obtain ⟨P, hP⟩ : ∃ P, P = r * y := ⟨_, rfl⟩
    rw [← hP] at hprod
    have hP0 : y = 0 → P = 0 := fun h0 => by rw [hP, h0, Nat.mul_zero]
    have hPi : (r : Int) * (y : Int) = (P : Int) := by rw [hP]; push_cast; rfl
    replace hP := Hq.mk hP
    conv => whnf
    repeat ((first | refine opsI.step ?_ | refine codeI.step ?_); conv => whnf)
    repeat' first
     | (show SeqN _ _ _ _ _ _ _; first
       | (refine SeqN.go ?_; conv => whnf))
     | (show WrapN _ _ _; first
       | (refine WrapN.i64 (by omega) (by omega) ?_; conv => whnf)
       | (refine WrapN.u32 (by omega) (by omega) ?_; conv => whnf))
     | (show Idx _ _ _ _ _; first
       | (refine Idx.one k rfl (by omega) (by omega) ?_; conv => whnf)
       | (refine Idx.ws hdd k (by omega) (by unfold ln at *; omega) (fun ad hv => ?_); conv => whnf))
     | (show Ld _ _ _ _; first
       | (refine Ld.winZ 0 rfl (by omega) ?_; rw [hwk.out]; conv => whnf)
       | (refine Ld.of (by first | exact hv _ | (rename_i hv; exact hv _)) ?_; rw [← hy.out]; conv => whnf))
     | (show BitN _ _ _ _ _; first
       | (refine BitN.mask16 (by omega) (by omega) (fun d hd => ?_); conv => whnf))
     | ((first | refine opsI.step ?_ | refine codeI.step ?_); conv => whnf)
     | (show cnd _ _ _; first
       | (refine cnd_lt (fun _ => ?_) (fun _ => ?_) <;> first | (exfalso; omega) | (conv => whnf)))
    rotate_right
    · obtain rfl : k = m + 2 := by omega
      have hE := heq.out
      rw [evl_all two_le_b (show ln 65536 Dv ≤ m + 2 by omega), ← hUt.out, ← hU] at hE
      have hlow := evl_low two_le_b hwB (k := m + 2) (by omega)
      obtain ⟨m1, m2⟩ := hmod.out
      have e0 : e = 0 := by
        rcases Nat.eq_zero_or_pos e with h0 | h0
        · exact h0
        · have h5 : 1 * 65536 ^ (m + 2) ≤ e * 65536 ^ (m + 2) := Nat.mul_le_mul_right _ h0
          have h6 : Dv < 65536 ^ (m + 2) := Nat.lt_of_lt_of_le hDB.out (Nat.pow_le_pow_right (by decide) (by omega))
          omega
      subst e0
      refine RetN.done ⟨w, rfl, rfl, hwl, hwB, ?_⟩
      rw [evl_split (k := m + 2) (l := w) (by omega), hwd.out, htop.out]
      omega
    all_goals
      rename_i d hd
      refine Sto.winZ 0 rfl d rfl (by omega) ?_
      conv => whnf
      repeat ((first | refine opsI.step ?_ | refine codeI.step ?_); conv => whnf)
      repeat' first
       | (show ShrN _ _ _ _; first
         | (refine ShrN.i16 (by decide) (fun z hz' => ?_); conv => whnf))
       | ((first | refine opsI.step ?_ | refine codeI.step ?_); conv => whnf)
       | (show WrapN _ _ _; first
         | (refine WrapN.i64 (by omega) (by omega) ?_; conv => whnf))
      have hdB : d < 65536 := by omega
      have hze : z ≤ 0 ∧ -65535 ≤ z := by omega
      have hzd : (d : Int) + P + e = x + (-z) * 65536 := by omega
      obtain ⟨e', he'⟩ : ∃ e' : Nat, z = -(e' : Int) := ⟨(-z).toNat, by omega⟩
      subst he'
      clear hz' hd
      refine ⟨rfl, m + 2 - (k + 1), by omega, k + 1, w.set k d, e', rfl, rfl, rfl, vi (by omega), rfl, by omega, by simp [hwl], mem_set_lt hwB hdB, by omega, ⟨drop_of_drop hwd.out⟩, ⟨sub16_step (by omega) ?_ heq.out⟩⟩
      rw [← hx.out, ← hy.out, ← hP.out]; omega
end Go.Proofs.YteblflmnhegmjaaDoor
