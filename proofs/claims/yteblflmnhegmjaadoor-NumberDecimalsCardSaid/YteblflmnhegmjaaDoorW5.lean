/- Contracts of package word's functions on natural numbers, fifth part: one digit of long division. -/
import Derived.Test.YteblflmnhegmjaaDoorW4
import Derived.Test.YteblflmnhegmjaaDoorDig4
import Derived.Test.YteblflmnhegmjaaDoorVcApp
set_option linter.unusedVariables false
set_option linter.unusedSimpArgs false
namespace Go.Vc
open Go Go.Dig
theorem win_get {p u : List Nat} {i : Nat} (ho : i < u.length) : (p ++ u).getD (p.length + i) 0 = u.getD i 0 := by
  simp [List.getD_eq_getElem?_getD, List.getElem?_append_right]
theorem win_set {p u : List Nat} {i x : Nat} : (p ++ u).set (p.length + i) x = p ++ u.set i x := by
  rw [List.set_append_right _ _ (by omega)]; congr 2; omega
theorem Ld.win {h : Heap} {L : Own} {b i : Nat} {k : Value → Prop} {kd : IntKind} {T : TypeId} {p u : List Nat} (n : Nat) (hb : L[n]? = some (b, Row kd T (p ++ u))) (ho : i < u.length) (hk : k (.int kd ((u.getD i 0 : Nat) : Int))) : Ld h L ⟨b, p.length + i, none⟩ k :=
  Ld.ws n hb (by simp; omega) (by rw [win_get ho]; exact hk)
theorem Sto.win {L : Own} {b i : Nat} {kd : IntKind} {T : TypeId} {p u : List Nat} {v : Int} {k : Own → Prop} (n : Nat) (hb : L[n]? = some (b, Row kd T (p ++ u))) (x : Nat) (hx : v = x) (hl : i < u.length)
    (hk : setK (b, Row kd T (p ++ u.set i x)) L n k) : Sto L ⟨b, p.length + i, none⟩ [.int kd v] k :=
  Sto.ws n hb x hx (by simp; omega) (by rw [win_set]; exact hk)
theorem Sto.winE {L : Own} {b i : Nat} {kd : IntKind} {T : TypeId} {p u : List Nat} {v : Int} {k : Own → Prop} (n : Nat) (hb : L[n]? = some (b, Row kd T (p ++ u))) (hl : i < u.length)
    (hk : ∀ x : Nat, (x : Int) = v → setK (b, Row kd T (p ++ u.set i x)) L n k) (h0 : 0 ≤ v := by omega) : Sto L ⟨b, p.length + i, none⟩ [.int kd v] k := by
  obtain ⟨x, hx⟩ : ∃ x : Nat, (x : Int) = v := ⟨v.toNat, Int.toNat_of_nonneg h0⟩
  exact Sto.win n hb x hx.symm hl (hk x hx)
theorem ShlN.w32 {x : Nat} {k : Int → Prop} (hx : x < 4294967296) (hk : k ((x * 4294967296 : Nat) : Int)) : ShlN .u64 (x : Int) 32 k := by
  refine ShlN.mk' 32 (by decide) ?_
  have e : ((x : Int) * 2 ^ 32) = ((x * 4294967296 : Nat) : Int) := by omega
  rw [e, wrap_nat rfl (by show _ < 2 ^ 64; omega)]; exact hk
end Go.Vc
namespace Go.Dig
theorem top2 {b : Nat} {l : List Nat} {n : Nat} : evl b (l.take (n + 2)) = evl b (l.take n) + b ^ n * (l.getD (n + 1) 0 * b + l.getD n 0) := by
  rw [evl_take_next l (n + 1), evl_take_next, Nat.add_assoc, Nat.mul_add, Nat.pow_succ]
  congr 1; rw [Nat.add_comm, Nat.mul_assoc, Nat.mul_comm b]
theorem top3 {b : Nat} {l : List Nat} {n : Nat} : evl b (l.take (n + 3)) = evl b (l.take n) + b ^ n * ((l.getD (n + 1) 0 + l.getD (n + 2) 0 * b) * b + l.getD n 0) := by
  rw [evl_take_next l (n + 2), top2, Nat.add_assoc, show b ^ (n + 2) = b ^ n * (b * b) by rw [Nat.pow_add, Nat.pow_two], Nat.mul_assoc, ← Nat.mul_add]
  congr 2
  rw [Nat.add_mul, Nat.mul_assoc (l.getD (n + 2) 0), Nat.mul_comm (b * b)]
  omega
theorem un_le {b P dl ul v1 v2 un u1 u2 U D : Nat} (hD : D = dl + P * (v1 * b + v2)) (hdl : dl < P) (hU : U = ul + P * ((u1 + un * b) * b + u2)) (h : U < D * b) (hv2 : v2 < b) : un ≤ v1 := by
  have hP : 0 < P := by omega
  have h1 : P * (un * b * b) ≤ U := by
    rw [hU]; exact Nat.le_trans (Nat.mul_le_mul_left _ (by rw [Nat.add_mul]; omega)) (Nat.le_add_left _ _)
  have h2 : D ≤ P * (v1 * b + v2 + 1) := by rw [hD, Nat.mul_add P (v1 * b + v2) 1]; omega
  have h3 : D * b ≤ P * ((v1 * b + v2 + 1) * b) := by rw [← Nat.mul_assoc]; exact Nat.mul_le_mul_right _ h2
  have h4 : P * (un * b * b) < P * ((v1 * b + v2 + 1) * b) := by omega
  have h5 := Nat.lt_of_mul_lt_mul_left h4
  have h6 := Nat.lt_of_mul_lt_mul_right h5
  have h7 : un * b < (v1 + 1) * b := by rw [Nat.add_mul]; omega
  have := Nat.lt_of_mul_lt_mul_right h7
  omega
theorem back_step {b : Nat} {w u dd : List Nat} {k c bo bo' G s x : Nat} (hk : k < w.length) (hs : s = G * dd.getD k 0 + c) (hx : x + s % b + bo = u.getD k 0 + bo' * b)
    (h : evl b (w.take k) + G * evl b (dd.take k) = evl b (u.take k) + (c + bo) * b ^ k) :
    evl b ((w.set k x).take (k + 1)) + G * evl b (dd.take (k + 1)) = evl b (u.take (k + 1)) + (s / b + bo') * b ^ (k + 1) := by
  rw [evl_take_set _ hk, evl_take_next dd, evl_take_next u, Nat.mul_add, Nat.pow_succ]
  have e1 : (c + bo) * b ^ k = b ^ k * (c + bo) := Nat.mul_comm _ _
  have e2 : G * (b ^ k * dd.getD k 0) = b ^ k * (G * dd.getD k 0) := Nat.mul_left_comm _ _ _
  have e3 : (s / b + bo') * (b ^ k * b) = b ^ k * ((s / b + bo') * b) := by rw [Nat.mul_left_comm]
  rw [e1] at h; rw [e2, e3]
  have e4 : (c + bo) + x + G * dd.getD k 0 = u.getD k 0 + (s / b + bo') * b := by
    have := Nat.div_add_mod s b
    rw [Nat.mul_comm] at this
    rw [Nat.add_mul]; omega
  have e5 : b ^ k * (c + bo + x + G * dd.getD k 0) = b ^ k * (u.getD k 0 + (s / b + bo') * b) := by rw [e4]
  simp only [Nat.mul_add] at e5
  rw [Nat.mul_add] at h
  skip
  omega
theorem last_step {b : Nat} {w u dd : List Nat} {k c bo E G x : Nat} (hk : k < w.length) (hd : dd.length ≤ k) (hc : c < b) (hx : x + c + bo = u.getD k 0 + E * b)
    (h : evl b (w.take k) + G * evl b (dd.take k) = evl b (u.take k) + (c + bo) * b ^ k) :
    evl b ((w.set k x).take (k + 1)) + G * evl b dd = evl b (u.take (k + 1)) + E * b ^ (k + 1) := by
  have := back_step (s := c) (bo' := E) (x := x) hk (by rw [getD_out hd]; omega) (by rw [Nat.mod_eq_of_lt hc]; exact hx) h
  rwa [Nat.div_eq_of_lt hc, Nat.zero_add, evl_take_all (l := dd) (by omega)] at this
theorem end_mod {Y e M r : Nat} (h : Y + e * M = M + r) (h1 : Y < M) (h2 : r < M) : Y = r := by
  have := congrArg (· % M) h
  simpa [Nat.add_mul_mod_self_right, Nat.mod_eq_of_lt h1, Nat.mod_eq_of_lt h2] using this
theorem evl_low {b : Nat} (hb : 2 ≤ b) {l : List Nat} {k : Nat} (h : ∀ x ∈ l, x < b) (hk : k ≤ l.length) : evl b (l.take k) < b ^ k := by
  have := evl_lt hb (l := l.take k) fun x hx => h x (List.mem_of_mem_take hx)
  rwa [show (l.take k).length = k by simp; omega] at this
theorem evl_whole {b : Nat} {l u : List Nat} {k : Nat} (hk : k ≤ l.length) (hd : l.drop k = u.drop k) (h0 : evl b (u.drop k) = 0) : evl b l = evl b (l.take k) := by
  rw [evl_split hk, hd, h0, Nat.mul_zero, Nat.add_zero]
end Go.Dig
namespace Go.Proofs.YteblflmnhegmjaaDoor
open Go Go.Vc Go.Dig

set_option maxRecDepth 40000 in
set_option maxHeartbeats 4000000 in
theorem digit_ct (h : Heap) (b cap : Nat) (p u : List Nat) (d : Sl) (Dv m : Nat) (hd : IsNat h d Dv) (hm : ln 4294967296 Dv = m + 2) (la : ln 4294967296 Dv ≤ 17179869184) (hv1 : 2147483648 ≤ ((dg 4294967296 Dv).getD (m + 1) 0)) (hul : m + 3 ≤ u.length) (hpl : p.length ≤ 17179869184) (huB : ∀ x ∈ u, x < 4294967296) (hUD : evl 4294967296 u < Dv * 4294967296) :
    Vc.Fn T F.word_digit [.slice (some ⟨b, p.length, none⟩) (m + 3) cap, d.val] h [(b, Row .u32 Ty.uint32 (p ++ u))] fun v h' L' => ∃ u' : List Nat, h' = h ∧ L' = [(b, Row .u32 Ty.uint32 (p ++ u'))] ∧ v = .int .u32 (evl 4294967296 u / Dv : Nat) ∧ u'.length = u.length ∧ (∀ x ∈ u', x < 4294967296) ∧ evl 4294967296 u' = evl 4294967296 u % Dv := by
  have hdl := hd.len
  have hv1B := dg_getD_lt two_le_B Dv (m + 1)
  have hv2B := dg_getD_lt two_le_B Dv m
  have hu0 := getD_lt (b := 4294967296) (by omega) huB (m + 2)
  have hu1 := getD_lt (b := 4294967296) (by omega) huB (m + 1)
  have hu2 := getD_lt (b := 4294967296) (by omega) huB m
  have hDs : Hq (Dv = evl 4294967296 ((dg 4294967296 Dv).take m) + 4294967296 ^ m * (((dg 4294967296 Dv).getD (m + 1) 0) * 4294967296 + ((dg 4294967296 Dv).getD m 0))) := ⟨by rw [← top2, ← hm]; exact (evl_all two_le_B (Nat.le_refl _)).symm⟩
  have hDB : Dv < 4294967296 ^ (m + 2) := by rw [← hm]; exact lt_pow_ln two_le_B Dv
  have hD0 : 0 < Dv := by
    rcases Nat.eq_zero_or_pos Dv with h0 | h0
    · rw [h0, ln_zero] at hm; omega
    · exact h0
  have htop : Hq (evl 4294967296 (u.drop (m + 3)) = 0) := ⟨by
    rw [evl_div two_le_B huB]
    refine Nat.div_eq_of_lt (Nat.lt_of_lt_of_le hUD ?_)
    rw [Nat.pow_succ 4294967296 (m + 2)]; exact Nat.mul_le_mul_right _ (Nat.le_of_lt hDB)⟩
  have hUt : Hq (evl 4294967296 u = evl 4294967296 (u.take (m + 3))) := ⟨by rw [evl_split hul, htop.out, Nat.mul_zero, Nat.add_zero]⟩
  have hUs : Hq (evl 4294967296 u = evl 4294967296 (u.take m) + 4294967296 ^ m * (((u.getD (m + 1) 0) + (u.getD (m + 2) 0) * 4294967296) * 4294967296 + (u.getD m 0))) := ⟨by rw [hUt.out, top3]⟩
  have hlow : ∀ {l : List Nat}, (∀ x ∈ l, x < 4294967296) → m ≤ l.length → evl 4294967296 (l.take m) < 4294967296 ^ m := fun {l} hl hm => by
    have := evl_lt two_le_B (l := l.take m) fun x hx => hl x (List.mem_of_mem_take hx)
    rwa [show (l.take m).length = m by simp; omega] at this
  have hul2 : Hq (evl 4294967296 (u.take m) < 4294967296 ^ m) := ⟨hlow huB (by omega)⟩
  have hdl2 : Hq (evl 4294967296 ((dg 4294967296 Dv).take m) < 4294967296 ^ m) := ⟨hlow (dg_lt two_le_B Dv) (by unfold ln at hm; omega)⟩
  have hun : (u.getD (m + 2) 0) ≤ ((dg 4294967296 Dv).getD (m + 1) 0) := un_le hDs.out hdl2.out hUs.out hUD hv2B
  obtain ⟨q, hq⟩ : ∃ q, q = evl 4294967296 u / Dv := ⟨_, rfl⟩
  obtain ⟨top, ht⟩ : ∃ top, top = (u.getD (m + 1) 0) + (u.getD (m + 2) 0) * 4294967296 := ⟨_, rfl⟩
  rw [← ht] at hUs
  obtain ⟨g0, hg0⟩ : ∃ g0, g0 = top / ((dg 4294967296 Dv).getD (m + 1) 0) := ⟨_, rfl⟩
  obtain ⟨r0, hr0⟩ : ∃ r0, r0 = top % ((dg 4294967296 Dv).getD (m + 1) 0) := ⟨_, rfl⟩
  have hq0 : q ≤ g0 := by rw [hq, hg0]; exact guess_ge hDs.out hUs.out hul2.out hu2 (by omega)
  have hqB : q < 4294967296 := by rw [hq]; exact (Nat.div_lt_iff_lt_mul hD0).2 (by rw [Nat.mul_comm]; exact hUD)
  have hg0B : g0 ≤ 4294967296 + 1 := by
    rw [hg0]
    have : top < (4294967296 + 2) * ((dg 4294967296 Dv).getD (m + 1) 0) := by
      have : (u.getD (m + 2) 0) * 4294967296 ≤ ((dg 4294967296 Dv).getD (m + 1) 0) * 4294967296 := Nat.mul_le_mul_right _ hun
      omega
    have := (Nat.div_lt_iff_lt_mul (by omega)).2 this
    omega
  have hr0B : r0 < 4294967296 := by have := Nat.mod_lt top (show 0 < ((dg 4294967296 Dv).getD (m + 1) 0) by omega); omega
  have hgr : Hq (g0 * ((dg 4294967296 Dv).getD (m + 1) 0) + r0 = top) := ⟨by rw [hg0, hr0, Nat.mul_comm]; exact Nat.div_add_mod _ _⟩
  have eq1 : ((top : Int) / (((dg 4294967296 Dv).getD (m + 1) 0) : Nat)) = (g0 : Int) := by rw [hg0]; rfl
  have eq2 : ((top : Int) % (((dg 4294967296 Dv).getD (m + 1) 0) : Nat)) = (r0 : Int) := by rw [hr0]; rfl
  rw [← hq]
  replace hq := Hq.mk hq
  replace hg0 := Hq.mk hg0
  replace hr0 := Hq.mk hr0
  replace hDB := Hq.mk hDB
  replace hUD := Hq.mk hUD
  replace hD0 := Hq.mk hD0
  replace hlow := Hq.mk @hlow
  refine fn_of_codeI ok D.word_digit rfl ?_
  conv => whnf
  repeat ((first | refine opsI.step ?_ | refine codeI.step ?_); conv => whnf)
  repeat' first
   | (show Idx _ _ _ _ _; first
     | (refine Idx.one (m + 2) rfl (by omega) (by omega) ?_; conv => whnf)
     | (refine Idx.one (m + 1) rfl (by omega) (by omega) ?_; conv => whnf))
   | (show Ld _ _ _ _; first
     | (refine Ld.win 0 rfl (by omega) ?_; conv => whnf))
   | (show ShlN _ _ _ _; first
     | (refine ShlN.w32 hu0 ?_; conv => whnf))
   | (show WrapN _ _ _; first
     | (refine WrapN.i64 (by omega) (by omega) ?_; conv => whnf)
     | (refine WrapN.u64 (by omega) (by omega) ?_; conv => whnf))
   | (show DrawN _ _ _ _ _ _; first
     | (refine DrawN.run (by decide +kernel) ?_; conv => whnf))
  · refine BitN.orq (u.getD (m + 1) 0) ((u.getD (m + 2) 0) * 4294967296) 32 rfl rfl hu1 (by show _ % 4294967296 = 0; omega) (by show _ < 2 ^ 64; omega) (by show _ < 2 ^ 64; omega) rfl (fun _ => ?_)
    rw [← ht]
    conv => whnf
    repeat ((first | refine opsI.step ?_ | refine codeI.step ?_); conv => whnf)
    repeat' first
     | (show Idx _ _ _ _ _; first
       | (refine Idx.ws hd (m + 1) (by omega) (by unfold ln at *; omega) (fun ad hv => ?_); conv => whnf))
     | (show Ld _ _ _ _; first
       | (refine Ld.of (by first | exact hv _ | (rename_i hv; exact hv _)) ?_; conv => whnf))
     | (show QuoN _ _ _ _; first
       | (refine QuoN.u64 (by omega) (by omega) (by omega) ?_; rw [eq1]; conv => whnf))
     | (show RemN _ _ _; first
       | (refine RemN.nn (by omega) (by omega) ?_; rw [eq2]; conv => whnf))
     | ((first | refine opsI.step ?_ | refine codeI.step ?_); conv => whnf)
     | (show WrapN _ _ _; first
       | (refine WrapN.i64 (by omega) (by omega) ?_; conv => whnf)
       | (refine WrapN.u64 (by omega) (by omega) ?_; conv => whnf))
     | (show DrawN _ _ _ _ _ _; first
       | (refine DrawN.run (by decide +kernel) ?_; conv => whnf))
    refine LoopN.of (fun r ρ h' L => ∃ (g rest : Nat), r = g ∧ h' = h ∧ L = [(b, Row .u32 Ty.uint32 (p ++ u))] ∧ rd ρ 7 = .int .u64 g ∧ rd ρ 8 = .int .u64 rest ∧ g ≤ 4294967296 + 1 ∧ rest < 4294967296 ∧ q ≤ g ∧ Hq (g * ((dg 4294967296 Dv).getD (m + 1) 0) + rest = top)) g0
      ⟨g0, r0, rfl, rfl, rfl, rfl, rfl, hg0B, hr0B, hq0, hgr⟩ ?_
    conv => whnf
    repeat intro _
    rename_i g h2 L2 hI
    obtain ⟨_, rest, rfl, rfl, rfl, e0, e1, hgB, hrB, hqg, hgr⟩ := hI
    conv at e0 => lhs; whnf
    subst e0
    conv at e1 => lhs; whnf
    subst e1
    have hstop : ∀ G rest, Hq (G * ((dg 4294967296 Dv).getD (m + 1) 0) + rest = top) → 4294967296 ≤ rest → G < 4294967296 := fun G rest h1 h2 => guess_stop (u1 := (u.getD (m + 1) 0)) (un := (u.getD (m + 2) 0)) h1.out (by omega) hu1 hun h2
    have hle : ∀ G rest, Hq (G * ((dg 4294967296 Dv).getD (m + 1) 0) + rest = top) → G < 4294967296 → Hq (G * ((dg 4294967296 Dv).getD m 0) ≤ rest * 4294967296 + (u.getD m 0)) → G ≤ q + 1 := fun G rest h1 h2 h3 => by
      rw [hq.out]; exact guess_le hDs.out hdl2.out hUs.out h1.out (by omega) h2 h3.out
    rcases Nat.lt_or_ge g 4294967296 with hgl | hgl
    · conv => whnf
      repeat ((first | refine opsI.step ?_ | refine codeI.step ?_); conv => whnf)
      repeat' first
       | (show ShrN _ _ _ _; first
         | (refine ShrN.of 32 (by decide) (by omega) ?_; conv => whnf))
       | (show WrapN _ _ _; first
         | (refine WrapN.mul32 (x := g) (y := ((dg 4294967296 Dv).getD m 0)) hgl hv2B (fun pp hp hp' => ?_); conv => whnf)
         | (refine WrapN.i64 (by omega) (by omega) ?_; conv => whnf)
         | (refine WrapN.u64 (by omega) (by omega) ?_; conv => whnf))
       | (show ShlN _ _ _ _; first
         | (refine ShlN.w32 hrB ?_; conv => whnf))
       | (show Idx _ _ _ _ _; first
         | (refine Idx.one m rfl (by omega) (by omega) ?_; conv => whnf)
         | (refine Idx.ws hd m (by omega) (by unfold ln at *; omega) (fun ad hv => ?_); conv => whnf))
       | (show Ld _ _ _ _; first
         | (refine Ld.win 0 rfl (by omega) ?_; conv => whnf)
         | (refine Ld.of (by first | exact hv _ | (rename_i hv; exact hv _)) ?_; conv => whnf))
       | (show cnd _ _ _; first
         | (refine cnd_eq (fun _ => ?_) (fun _ => ?_) <;> first | (exfalso; omega) | (conv => whnf))
         | (refine cnd_not ?_))
       | (show DrawN _ _ _ _ _ _; first
         | (refine DrawN.run (by decide +kernel) ?_; conv => whnf))
      rename_i pp hp hp' _ _
      refine BitN.orq (u.getD m 0) (rest * 4294967296) 32 rfl rfl hu2 (by show _ % 4294967296 = 0; omega) (by show _ < 2 ^ 64; omega) (by show _ < 2 ^ 64; omega) rfl (fun _ => ?_)
      obtain ⟨sm, hsm⟩ : ∃ sm, sm = (u.getD m 0) + rest * 4294967296 := ⟨_, rfl⟩
      rw [← hsm]
      conv => whnf
      repeat ((first | refine opsI.step ?_ | refine codeI.step ?_); conv => whnf)
      refine cnd_lt (fun hgt => ?_) (fun hng => ?_)
      · have hqg1 : q < g := by rw [hq.out]; exact guess_gt hDs.out hUs.out hul2.out hgr.out (by rw [← hp.out]; omega)
        obtain ⟨G, rfl⟩ : ∃ G, g = G + 1 := ⟨g - 1, by omega⟩
        have eG : ((G + 1 : Nat) : Int) - 1 = (G : Int) := by omega
        have hgn : Hq (G * ((dg 4294967296 Dv).getD (m + 1) 0) + (rest + ((dg 4294967296 Dv).getD (m + 1) 0)) = top) := ⟨guess_next (Nat.succ_pos G) hgr.out⟩
        clear hgr
        conv => whnf
        repeat ((first | refine opsI.step ?_ | refine codeI.step ?_); conv => whnf)
        repeat' first
         | (show WrapN _ _ _; first
           | (refine WrapN.u64 (by omega) (by omega) ?_; rw [eG]; conv => whnf)
           | (refine WrapN.i64 (by omega) (by omega) ?_; conv => whnf)
           | (refine WrapN.u64 (by omega) (by omega) ?_; conv => whnf))
         | (show ShrN _ _ _ _; first
           | (refine ShrN.of 32 (by decide) (by omega) ?_; conv => whnf))
         | (show Idx _ _ _ _ _; first
           | (refine Idx.ws hd (m + 1) (by omega) (by unfold ln at *; omega) (fun ad hv => ?_); conv => whnf))
         | (show Ld _ _ _ _; first
           | (refine Ld.of (by first | exact hv _ | (rename_i hv; exact hv _)) ?_; conv => whnf))
         | ((first | refine opsI.step ?_ | refine codeI.step ?_); conv => whnf)
         | (show cnd _ _ _; first
           | (refine cnd_eq (fun _ => ?_) (fun _ => ?_) <;> first | (exfalso; omega) | (conv => whnf))
           | (refine cnd_not ?_))
        · exact ⟨rfl, G, by omega, G, rest + ((dg 4294967296 Dv).getD (m + 1) 0), rfl, rfl, rfl, rfl, vi (by omega), by omega, by omega, by omega, hgn⟩
        · have hGB : G < 4294967296 := hstop _ _ hgn (by omega)
          have hqG : q ≤ G := by omega
          have hGq : G ≤ q + 1 := hle _ _ hgn hGB ⟨guess_stop' hGB hv2B (by omega)⟩
          refine LoopN.of (fun r ρ h' L => ∃ (k : Nat) (w : List Nat) (c bo : Nat), r = m + 2 - k ∧ h' = h2 ∧ L = [(b, Row .u32 Ty.uint32 (p ++ w))] ∧ rd ρ 88 = .int .i64 k ∧ rd ρ 10 = .int .u64 c ∧ rd ρ 9 = .int .u64 bo ∧ k ≤ m + 2 ∧ w.length = u.length ∧ (∀ x ∈ w, x < 4294967296) ∧ c < 4294967296 ∧ bo ≤ 1 ∧ Hq (w.drop k = u.drop k) ∧ Hq (evl 4294967296 (w.take k) + G * evl 4294967296 ((dg 4294967296 Dv).take k) = evl 4294967296 (u.take k) + (c + bo) * 4294967296 ^ k)) (m + 2)
            ⟨0, u, 0, 0, rfl, rfl, rfl, rfl, rfl, rfl, by omega, rfl, huB, by omega, by omega, ⟨rfl⟩, ⟨by simp [evl_nil]⟩⟩ ?_
          conv => whnf
          repeat intro _
          rename_i r2 h3 L3 hI
          obtain ⟨k, w, c, bo, rfl, rfl, rfl, e0, e1, e2, hk, hwl, hwB, hc, hbo, hwd, heq⟩ := hI
          conv at e0 => lhs; whnf
          subst e0
          conv at e1 => lhs; whnf
          subst e1
          conv at e2 => lhs; whnf
          subst e2
          have hdk := dg_getD_lt two_le_B Dv k
          have hwk := getD_lt (b := 4294967296) (by omega) hwB k
          obtain ⟨xl, hxl⟩ : ∃ xl, xl = (w.getD k 0 + 2 * 4294967296 - c - bo) % 4294967296 := ⟨_, rfl⟩
          have hwu : Hq (w.getD k 0 = u.getD k 0) := ⟨getD_of_drop hwd.out (Nat.le_refl _)⟩
          conv => whnf
          repeat ((first | refine opsI.step ?_ | refine codeI.step ?_); conv => whnf)
          repeat' first
           | (show Idx _ _ _ _ _; first
             | (refine Idx.ws hd k (by omega) (by unfold ln at *; omega) (fun ad hv => ?_); conv => whnf)
             | (refine Idx.one k rfl (by omega) (by omega) ?_; conv => whnf))
           | (show Ld _ _ _ _; first
             | (refine Ld.of (by first | exact hv _ | (rename_i hv; exact hv _)) ?_; conv => whnf)
             | (refine Ld.win 0 rfl (by omega) ?_; conv => whnf))
           | (show WrapN _ _ _; first
             | (refine WrapN.mul32 (x := G) (y := (dg 4294967296 Dv).getD k 0) hGB hdk (fun pq hpq hpq' => ?_); conv => whnf)
             | (refine WrapN.u32e (fun _ _ => ?_); conv => whnf)
             | (refine WrapN.u64 (by omega) (by omega) ?_; conv => whnf)
             | (refine WrapN.u64e (fun _ _ => ?_); conv => whnf)
             | (refine WrapN.i64 (by omega) (by omega) ?_; conv => whnf))
           | (show ShrN _ _ _ _; first
             | (refine ShrN.e 32 (by decide) (by omega) (fun _ _ => ?_); conv => whnf)
             | (refine ShrN.e 63 (by decide) (by omega) (fun _ _ => ?_); conv => whnf))
           | (show Sto _ _ _ _; first
             | (refine Sto.win 0 rfl xl (by omega) (by omega) ?_; conv => whnf)
             | (refine Sto.winE 0 rfl (by omega) (fun _ _ => ?_); conv => whnf))
           | ((first | refine opsI.step ?_ | refine codeI.step ?_); conv => whnf)
           | (show cnd _ _ _; first
             | (refine cnd_lt (fun _ => ?_) (fun _ => ?_) <;> first | (exfalso; omega) | (conv => whnf))
             | (refine cnd_eq (fun _ => ?_) (fun _ => ?_) <;> first | (exfalso; omega) | (conv => whnf)))
          · refine ⟨rfl, m + 2 - (k + 1), by omega, k + 1, _, (pq + c) / 4294967296, if w.getD k 0 < (pq + c) % 4294967296 + bo then 1 else 0, rfl, rfl, rfl, vi (by omega), vi (by omega), vi (by split <;> omega), by omega, by simp [hwl], mem_set_lt hwB (by omega), by omega, by split <;> omega, ⟨drop_of_drop hwd.out⟩, ⟨back_step (s := pq + c) (by omega) (by rw [hpq.out]) (by rw [← hwu.out]; split <;> omega) heq.out⟩⟩
          · obtain rfl : k = m + 2 := by omega
            have hE := last_step (x := xl) (E := 0) (by omega) (by unfold ln at hm; omega) hc (by rw [← hwu.out]; omega) heq.out
            rw [evl_dg two_le_B, ← hUt.out] at hE
            have hfin := (digit_end hD0.out hq.out hqG hGq hE (.inr (Nat.zero_mul _))).1 (Nat.zero_mul _)
            refine RetN.done ⟨w.set (m + 2) xl, rfl, rfl, vi (by have := hfin.1; omega), by simp [hwl], mem_set_lt hwB (by omega), ?_⟩
            rw [evl_whole (by simp; omega) (drop_of_drop hwd.out) htop.out]
            exact hfin.2
          · obtain rfl : k = m + 2 := by omega
            have hE := last_step (x := xl) (E := 1) (by omega) (by unfold ln at hm; omega) hc (by rw [← hwu.out]; omega) heq.out
            rw [evl_dg two_le_B, ← hUt.out, Nat.one_mul] at hE
            obtain ⟨y, hy⟩ : ∃ y, y = w.set (m + 2) xl := ⟨_, rfl⟩
            have hyl : y.length = u.length := by rw [hy]; simp [hwl]
            have hyB : ∀ x ∈ y, x < 4294967296 := by rw [hy]; exact mem_set_lt hwB (by omega)
            have hyd : Hq (y.drop (m + 3) = u.drop (m + 3)) := ⟨by rw [hy]; exact drop_of_drop hwd.out⟩
            rw [← hy] at hE
            have hpos : 0 < 4294967296 ^ (m + 3) := Nat.pow_pos (by omega)
            have hfin := (digit_end hD0.out hq.out hqG hGq hE (.inl (evl_low two_le_B hyB (by omega)))).2 hpos
            have hG1 := hfin.1
            replace hfin := Hq.mk hfin.2
            rw [← hy]
            replace hE := Hq.mk hE
            replace hpos := Hq.mk hpos
            refine LoopN.of (fun r ρ h' L => ∃ (k : Nat) (z : List Nat) (c : Nat), r = m + 2 - k ∧ h' = h3 ∧ L = [(b, Row .u32 Ty.uint32 (p ++ z))] ∧ rd ρ 141 = .int .i64 k ∧ rd ρ 10 = .int .u64 c ∧ k ≤ m + 2 ∧ z.length = u.length ∧ (∀ x ∈ z, x < 4294967296) ∧ c ≤ 1 ∧ Hq (z.drop k = y.drop k) ∧ Hq (evl 4294967296 (z.take k) + c * 4294967296 ^ k = evl 4294967296 (y.take k) + evl 4294967296 ((dg 4294967296 Dv).take k))) (m + 2)
              ⟨0, y, 0, rfl, rfl, rfl, rfl, rfl, by omega, hyl, hyB, by omega, ⟨rfl⟩, ⟨by simp [evl_nil]⟩⟩ ?_
            conv => whnf
            repeat intro _
            rename_i r3 h4 L4 hI
            obtain ⟨k, z, c, rfl, rfl, rfl, e0, e1, hk, hzl, hzB, hc, hzd, heq⟩ := hI
            conv at e0 => lhs; whnf
            subst e0
            conv at e1 => lhs; whnf
            subst e1
            have hdk := dg_getD_lt two_le_B Dv k
            have hzk := getD_lt (b := 4294967296) (by omega) hzB k
            obtain ⟨s3, hs3⟩ : ∃ s3, s3 = z.getD k 0 + c + (dg 4294967296 Dv).getD k 0 := ⟨_, rfl⟩
            obtain ⟨x3, hx3⟩ : ∃ x3, x3 = s3 % 4294967296 := ⟨_, rfl⟩
            obtain ⟨x4, hx4⟩ : ∃ x4, x4 = (z.getD k 0 + c) % 4294967296 := ⟨_, rfl⟩
            have hzu : Hq (z.getD k 0 = y.getD k 0) := ⟨getD_of_drop hzd.out (Nat.le_refl _)⟩
            conv => whnf
            repeat ((first | refine opsI.step ?_ | refine codeI.step ?_); conv => whnf)
            repeat' first
             | (show Idx _ _ _ _ _; first
               | (refine Idx.ws hd k (by omega) (by unfold ln at *; omega) (fun ad hv => ?_); conv => whnf)
               | (refine Idx.one k rfl (by omega) (by omega) ?_; conv => whnf))
             | (show Ld _ _ _ _; first
               | (refine Ld.of (by first | exact hv _ | (rename_i hv; exact hv _)) ?_; conv => whnf)
               | (refine Ld.win 0 rfl (by omega) ?_; conv => whnf))
             | (show ShrN _ _ _ _; first
               | (refine ShrN.e 32 (by decide) (by omega) (fun _ _ => ?_); conv => whnf))
             | (show WrapN _ _ _; first
               | (refine WrapN.u32e (fun _ _ => ?_); conv => whnf)
               | (refine WrapN.i64 (by omega) (by omega) ?_; conv => whnf)
               | (refine WrapN.u64 (by omega) (by omega) ?_; conv => whnf))
             | (show Sto _ _ _ _; first
               | (refine Sto.win 0 rfl x3 (by omega) (by omega) ?_; conv => whnf)
               | (refine Sto.win 0 rfl x4 (by omega) (by omega) ?_; conv => whnf))
             | ((first | refine opsI.step ?_ | refine codeI.step ?_); conv => whnf)
             | (show cnd _ _ _; first
               | (refine cnd_lt (fun _ => ?_) (fun _ => ?_) <;> first | (exfalso; omega) | (conv => whnf)))
            · refine ⟨rfl, m + 2 - (k + 1), by omega, k + 1, _, s3 / 4294967296, rfl, rfl, rfl, vi (by omega), vi (by omega), by omega, by simp [hzl], mem_set_lt hzB (by omega), by omega, ⟨drop_of_drop hzd.out⟩, ⟨by rw [hx3]; exact add_step (by omega) (by rw [← hzu.out]; exact hs3) heq.out⟩⟩
            · obtain rfl : k = m + 2 := by omega
              have hz0 : (dg 4294967296 Dv).getD (m + 2) 0 = 0 := getD_out (by unfold ln at hm; omega)
              have hA := add_step (b := 4294967296) (o := z) (da := y) (db := dg 4294967296 Dv) (k := m + 2) (c := c) (s := z.getD (m + 2) 0 + c) (by omega) (by rw [← hzu.out, hz0]; rfl) heq.out
              rw [evl_take_all (l := dg 4294967296 Dv) (by unfold ln at hm; omega), evl_dg two_le_B, hfin.out] at hA
              rw [← hx4] at hA
              have hB := mem_set_lt (k := m + 2) (x := x4) hzB (by omega)
              have hY := end_mod hA (evl_low two_le_B hB (by simp; omega)) (Nat.lt_of_lt_of_le (Nat.lt_trans (Nat.mod_lt _ hD0.out) hDB.out) (Nat.pow_le_pow_right (by omega) (by omega)))
              refine RetN.done ⟨z.set (m + 2) x4, rfl, rfl, vi (by omega), by simp [hzl], hB, ?_⟩
              rw [evl_whole (u := u) (k := m + 3) (by simp; omega) ((drop_of_drop hzd.out).trans hyd.out) htop.out]
              exact hY
      · obtain ⟨G, hG⟩ : ∃ G, G = g := ⟨g, rfl⟩
        subst hG
        have hGB : G < 4294967296 := hgl
        have hqG : q ≤ G := hqg
        have hGq : G ≤ q + 1 := hle _ _ hgr hGB ⟨by rw [← hp.out]; omega⟩
        conv => whnf
        repeat ((first | refine opsI.step ?_ | refine codeI.step ?_); conv => whnf)
        skip
        refine LoopN.of (fun r ρ h' L => ∃ (k : Nat) (w : List Nat) (c bo : Nat), r = m + 2 - k ∧ h' = h2 ∧ L = [(b, Row .u32 Ty.uint32 (p ++ w))] ∧ rd ρ 88 = .int .i64 k ∧ rd ρ 10 = .int .u64 c ∧ rd ρ 9 = .int .u64 bo ∧ k ≤ m + 2 ∧ w.length = u.length ∧ (∀ x ∈ w, x < 4294967296) ∧ c < 4294967296 ∧ bo ≤ 1 ∧ Hq (w.drop k = u.drop k) ∧ Hq (evl 4294967296 (w.take k) + G * evl 4294967296 ((dg 4294967296 Dv).take k) = evl 4294967296 (u.take k) + (c + bo) * 4294967296 ^ k)) (m + 2)
          ⟨0, u, 0, 0, rfl, rfl, rfl, rfl, rfl, rfl, by omega, rfl, huB, by omega, by omega, ⟨rfl⟩, ⟨by simp [evl_nil]⟩⟩ ?_
        conv => whnf
        repeat intro _
        rename_i r2 h3 L3 hI
        obtain ⟨k, w, c, bo, rfl, rfl, rfl, e0, e1, e2, hk, hwl, hwB, hc, hbo, hwd, heq⟩ := hI
        conv at e0 => lhs; whnf
        subst e0
        conv at e1 => lhs; whnf
        subst e1
        conv at e2 => lhs; whnf
        subst e2
        have hdk := dg_getD_lt two_le_B Dv k
        have hwk := getD_lt (b := 4294967296) (by omega) hwB k
        obtain ⟨xl, hxl⟩ : ∃ xl, xl = (w.getD k 0 + 2 * 4294967296 - c - bo) % 4294967296 := ⟨_, rfl⟩
        have hwu : Hq (w.getD k 0 = u.getD k 0) := ⟨getD_of_drop hwd.out (Nat.le_refl _)⟩
        conv => whnf
        repeat ((first | refine opsI.step ?_ | refine codeI.step ?_); conv => whnf)
        repeat' first
         | (show Idx _ _ _ _ _; first
           | (refine Idx.ws hd k (by omega) (by unfold ln at *; omega) (fun ad hv => ?_); conv => whnf)
           | (refine Idx.one k rfl (by omega) (by omega) ?_; conv => whnf))
         | (show Ld _ _ _ _; first
           | (refine Ld.of (by first | exact hv _ | (rename_i hv; exact hv _)) ?_; conv => whnf)
           | (refine Ld.win 0 rfl (by omega) ?_; conv => whnf))
         | (show WrapN _ _ _; first
           | (refine WrapN.mul32 (x := G) (y := (dg 4294967296 Dv).getD k 0) hGB hdk (fun pq hpq hpq' => ?_); conv => whnf)
           | (refine WrapN.u32e (fun _ _ => ?_); conv => whnf)
           | (refine WrapN.u64 (by omega) (by omega) ?_; conv => whnf)
           | (refine WrapN.u64e (fun _ _ => ?_); conv => whnf)
           | (refine WrapN.i64 (by omega) (by omega) ?_; conv => whnf))
         | (show ShrN _ _ _ _; first
           | (refine ShrN.e 32 (by decide) (by omega) (fun _ _ => ?_); conv => whnf)
           | (refine ShrN.e 63 (by decide) (by omega) (fun _ _ => ?_); conv => whnf))
         | (show Sto _ _ _ _; first
           | (refine Sto.win 0 rfl xl (by omega) (by omega) ?_; conv => whnf)
           | (refine Sto.winE 0 rfl (by omega) (fun _ _ => ?_); conv => whnf))
         | ((first | refine opsI.step ?_ | refine codeI.step ?_); conv => whnf)
         | (show cnd _ _ _; first
           | (refine cnd_lt (fun _ => ?_) (fun _ => ?_) <;> first | (exfalso; omega) | (conv => whnf))
           | (refine cnd_eq (fun _ => ?_) (fun _ => ?_) <;> first | (exfalso; omega) | (conv => whnf)))
        · refine ⟨rfl, m + 2 - (k + 1), by omega, k + 1, _, (pq + c) / 4294967296, if w.getD k 0 < (pq + c) % 4294967296 + bo then 1 else 0, rfl, rfl, rfl, vi (by omega), vi (by omega), vi (by split <;> omega), by omega, by simp [hwl], mem_set_lt hwB (by omega), by omega, by split <;> omega, ⟨drop_of_drop hwd.out⟩, ⟨back_step (s := pq + c) (by omega) (by rw [hpq.out]) (by rw [← hwu.out]; split <;> omega) heq.out⟩⟩
        · obtain rfl : k = m + 2 := by omega
          have hE := last_step (x := xl) (E := 0) (by omega) (by unfold ln at hm; omega) hc (by rw [← hwu.out]; omega) heq.out
          rw [evl_dg two_le_B, ← hUt.out] at hE
          have hfin := (digit_end hD0.out hq.out hqG hGq hE (.inr (Nat.zero_mul _))).1 (Nat.zero_mul _)
          refine RetN.done ⟨w.set (m + 2) xl, rfl, rfl, vi (by have := hfin.1; omega), by simp [hwl], mem_set_lt hwB (by omega), ?_⟩
          rw [evl_whole (by simp; omega) (drop_of_drop hwd.out) htop.out]
          exact hfin.2
        · obtain rfl : k = m + 2 := by omega
          have hE := last_step (x := xl) (E := 1) (by omega) (by unfold ln at hm; omega) hc (by rw [← hwu.out]; omega) heq.out
          rw [evl_dg two_le_B, ← hUt.out, Nat.one_mul] at hE
          obtain ⟨y, hy⟩ : ∃ y, y = w.set (m + 2) xl := ⟨_, rfl⟩
          have hyl : y.length = u.length := by rw [hy]; simp [hwl]
          have hyB : ∀ x ∈ y, x < 4294967296 := by rw [hy]; exact mem_set_lt hwB (by omega)
          have hyd : Hq (y.drop (m + 3) = u.drop (m + 3)) := ⟨by rw [hy]; exact drop_of_drop hwd.out⟩
          rw [← hy] at hE
          have hpos : 0 < 4294967296 ^ (m + 3) := Nat.pow_pos (by omega)
          have hfin := (digit_end hD0.out hq.out hqG hGq hE (.inl (evl_low two_le_B hyB (by omega)))).2 hpos
          have hG1 := hfin.1
          replace hfin := Hq.mk hfin.2
          rw [← hy]
          replace hE := Hq.mk hE
          replace hpos := Hq.mk hpos
          refine LoopN.of (fun r ρ h' L => ∃ (k : Nat) (z : List Nat) (c : Nat), r = m + 2 - k ∧ h' = h3 ∧ L = [(b, Row .u32 Ty.uint32 (p ++ z))] ∧ rd ρ 141 = .int .i64 k ∧ rd ρ 10 = .int .u64 c ∧ k ≤ m + 2 ∧ z.length = u.length ∧ (∀ x ∈ z, x < 4294967296) ∧ c ≤ 1 ∧ Hq (z.drop k = y.drop k) ∧ Hq (evl 4294967296 (z.take k) + c * 4294967296 ^ k = evl 4294967296 (y.take k) + evl 4294967296 ((dg 4294967296 Dv).take k))) (m + 2)
            ⟨0, y, 0, rfl, rfl, rfl, rfl, rfl, by omega, hyl, hyB, by omega, ⟨rfl⟩, ⟨by simp [evl_nil]⟩⟩ ?_
          conv => whnf
          repeat intro _
          rename_i r3 h4 L4 hI
          obtain ⟨k, z, c, rfl, rfl, rfl, e0, e1, hk, hzl, hzB, hc, hzd, heq⟩ := hI
          conv at e0 => lhs; whnf
          subst e0
          conv at e1 => lhs; whnf
          subst e1
          have hdk := dg_getD_lt two_le_B Dv k
          have hzk := getD_lt (b := 4294967296) (by omega) hzB k
          obtain ⟨s3, hs3⟩ : ∃ s3, s3 = z.getD k 0 + c + (dg 4294967296 Dv).getD k 0 := ⟨_, rfl⟩
          obtain ⟨x3, hx3⟩ : ∃ x3, x3 = s3 % 4294967296 := ⟨_, rfl⟩
          obtain ⟨x4, hx4⟩ : ∃ x4, x4 = (z.getD k 0 + c) % 4294967296 := ⟨_, rfl⟩
          have hzu : Hq (z.getD k 0 = y.getD k 0) := ⟨getD_of_drop hzd.out (Nat.le_refl _)⟩
          conv => whnf
          repeat ((first | refine opsI.step ?_ | refine codeI.step ?_); conv => whnf)
          repeat' first
           | (show Idx _ _ _ _ _; first
             | (refine Idx.ws hd k (by omega) (by unfold ln at *; omega) (fun ad hv => ?_); conv => whnf)
             | (refine Idx.one k rfl (by omega) (by omega) ?_; conv => whnf))
           | (show Ld _ _ _ _; first
             | (refine Ld.of (by first | exact hv _ | (rename_i hv; exact hv _)) ?_; conv => whnf)
             | (refine Ld.win 0 rfl (by omega) ?_; conv => whnf))
           | (show ShrN _ _ _ _; first
             | (refine ShrN.e 32 (by decide) (by omega) (fun _ _ => ?_); conv => whnf))
           | (show WrapN _ _ _; first
             | (refine WrapN.u32e (fun _ _ => ?_); conv => whnf)
             | (refine WrapN.i64 (by omega) (by omega) ?_; conv => whnf)
             | (refine WrapN.u64 (by omega) (by omega) ?_; conv => whnf))
           | (show Sto _ _ _ _; first
             | (refine Sto.win 0 rfl x3 (by omega) (by omega) ?_; conv => whnf)
             | (refine Sto.win 0 rfl x4 (by omega) (by omega) ?_; conv => whnf))
           | ((first | refine opsI.step ?_ | refine codeI.step ?_); conv => whnf)
           | (show cnd _ _ _; first
             | (refine cnd_lt (fun _ => ?_) (fun _ => ?_) <;> first | (exfalso; omega) | (conv => whnf)))
          · refine ⟨rfl, m + 2 - (k + 1), by omega, k + 1, _, s3 / 4294967296, rfl, rfl, rfl, vi (by omega), vi (by omega), by omega, by simp [hzl], mem_set_lt hzB (by omega), by omega, ⟨drop_of_drop hzd.out⟩, ⟨by rw [hx3]; exact add_step (by omega) (by rw [← hzu.out]; exact hs3) heq.out⟩⟩
          · obtain rfl : k = m + 2 := by omega
            have hz0 : (dg 4294967296 Dv).getD (m + 2) 0 = 0 := getD_out (by unfold ln at hm; omega)
            have hA := add_step (b := 4294967296) (o := z) (da := y) (db := dg 4294967296 Dv) (k := m + 2) (c := c) (s := z.getD (m + 2) 0 + c) (by omega) (by rw [← hzu.out, hz0]; rfl) heq.out
            rw [evl_take_all (l := dg 4294967296 Dv) (by unfold ln at hm; omega), evl_dg two_le_B, hfin.out] at hA
            rw [← hx4] at hA
            have hB := mem_set_lt (k := m + 2) (x := x4) hzB (by omega)
            have hY := end_mod hA (evl_low two_le_B hB (by simp; omega)) (Nat.lt_of_lt_of_le (Nat.lt_trans (Nat.mod_lt _ hD0.out) hDB.out) (Nat.pow_le_pow_right (by omega) (by omega)))
            refine RetN.done ⟨z.set (m + 2) x4, rfl, rfl, vi (by omega), by simp [hzl], hB, ?_⟩
            rw [evl_whole (u := u) (k := m + 3) (by simp; omega) ((drop_of_drop hzd.out).trans hyd.out) htop.out]
            exact hY
    · have hqg1 : q < g := by rw [hq.out]; exact guess_big hUD.out hgl
      obtain ⟨G, rfl⟩ : ∃ G, g = G + 1 := ⟨g - 1, by omega⟩
      have eG : ((G + 1 : Nat) : Int) - 1 = (G : Int) := by omega
      have hgn : Hq (G * ((dg 4294967296 Dv).getD (m + 1) 0) + (rest + ((dg 4294967296 Dv).getD (m + 1) 0)) = top) := ⟨guess_next (Nat.succ_pos G) hgr.out⟩
      clear hgr
      conv => whnf
      repeat ((first | refine opsI.step ?_ | refine codeI.step ?_); conv => whnf)
      repeat' first
       | (show WrapN _ _ _; first
         | (refine WrapN.u64 (by omega) (by omega) ?_; rw [eG]; conv => whnf)
         | (refine WrapN.i64 (by omega) (by omega) ?_; conv => whnf)
         | (refine WrapN.u64 (by omega) (by omega) ?_; conv => whnf))
       | (show ShrN _ _ _ _; first
         | (refine ShrN.of 32 (by decide) (by omega) ?_; conv => whnf))
       | (show Idx _ _ _ _ _; first
         | (refine Idx.ws hd (m + 1) (by omega) (by unfold ln at *; omega) (fun ad hv => ?_); conv => whnf))
       | (show Ld _ _ _ _; first
         | (refine Ld.of (by first | exact hv _ | (rename_i hv; exact hv _)) ?_; conv => whnf))
       | ((first | refine opsI.step ?_ | refine codeI.step ?_); conv => whnf)
       | (show cnd _ _ _; first
         | (refine cnd_eq (fun _ => ?_) (fun _ => ?_) <;> first | (exfalso; omega) | (conv => whnf))
         | (refine cnd_not ?_))
       | (show DrawN _ _ _ _ _ _; first
         | (refine DrawN.run (by decide +kernel) ?_; conv => whnf))
      · exact ⟨rfl, G, by omega, G, rest + ((dg 4294967296 Dv).getD (m + 1) 0), rfl, rfl, rfl, rfl, vi (by omega), by omega, by omega, by omega, hgn⟩
      · have hGB : G < 4294967296 := hstop _ _ hgn (by omega)
        have hqG : q ≤ G := by omega
        have hGq : G ≤ q + 1 := hle _ _ hgn hGB ⟨guess_stop' hGB hv2B (by omega)⟩
        refine LoopN.of (fun r ρ h' L => ∃ (k : Nat) (w : List Nat) (c bo : Nat), r = m + 2 - k ∧ h' = h2 ∧ L = [(b, Row .u32 Ty.uint32 (p ++ w))] ∧ rd ρ 88 = .int .i64 k ∧ rd ρ 10 = .int .u64 c ∧ rd ρ 9 = .int .u64 bo ∧ k ≤ m + 2 ∧ w.length = u.length ∧ (∀ x ∈ w, x < 4294967296) ∧ c < 4294967296 ∧ bo ≤ 1 ∧ Hq (w.drop k = u.drop k) ∧ Hq (evl 4294967296 (w.take k) + G * evl 4294967296 ((dg 4294967296 Dv).take k) = evl 4294967296 (u.take k) + (c + bo) * 4294967296 ^ k)) (m + 2)
          ⟨0, u, 0, 0, rfl, rfl, rfl, rfl, rfl, rfl, by omega, rfl, huB, by omega, by omega, ⟨rfl⟩, ⟨by simp [evl_nil]⟩⟩ ?_
        conv => whnf
        repeat intro _
        rename_i r2 h3 L3 hI
        obtain ⟨k, w, c, bo, rfl, rfl, rfl, e0, e1, e2, hk, hwl, hwB, hc, hbo, hwd, heq⟩ := hI
        conv at e0 => lhs; whnf
        subst e0
        conv at e1 => lhs; whnf
        subst e1
        conv at e2 => lhs; whnf
        subst e2
        have hdk := dg_getD_lt two_le_B Dv k
        have hwk := getD_lt (b := 4294967296) (by omega) hwB k
        obtain ⟨xl, hxl⟩ : ∃ xl, xl = (w.getD k 0 + 2 * 4294967296 - c - bo) % 4294967296 := ⟨_, rfl⟩
        have hwu : Hq (w.getD k 0 = u.getD k 0) := ⟨getD_of_drop hwd.out (Nat.le_refl _)⟩
        conv => whnf
        repeat ((first | refine opsI.step ?_ | refine codeI.step ?_); conv => whnf)
        repeat' first
         | (show Idx _ _ _ _ _; first
           | (refine Idx.ws hd k (by omega) (by unfold ln at *; omega) (fun ad hv => ?_); conv => whnf)
           | (refine Idx.one k rfl (by omega) (by omega) ?_; conv => whnf))
         | (show Ld _ _ _ _; first
           | (refine Ld.of (by first | exact hv _ | (rename_i hv; exact hv _)) ?_; conv => whnf)
           | (refine Ld.win 0 rfl (by omega) ?_; conv => whnf))
         | (show WrapN _ _ _; first
           | (refine WrapN.mul32 (x := G) (y := (dg 4294967296 Dv).getD k 0) hGB hdk (fun pq hpq hpq' => ?_); conv => whnf)
           | (refine WrapN.u32e (fun _ _ => ?_); conv => whnf)
           | (refine WrapN.u64 (by omega) (by omega) ?_; conv => whnf)
           | (refine WrapN.u64e (fun _ _ => ?_); conv => whnf)
           | (refine WrapN.i64 (by omega) (by omega) ?_; conv => whnf))
         | (show ShrN _ _ _ _; first
           | (refine ShrN.e 32 (by decide) (by omega) (fun _ _ => ?_); conv => whnf)
           | (refine ShrN.e 63 (by decide) (by omega) (fun _ _ => ?_); conv => whnf))
         | (show Sto _ _ _ _; first
           | (refine Sto.win 0 rfl xl (by omega) (by omega) ?_; conv => whnf)
           | (refine Sto.winE 0 rfl (by omega) (fun _ _ => ?_); conv => whnf))
         | ((first | refine opsI.step ?_ | refine codeI.step ?_); conv => whnf)
         | (show cnd _ _ _; first
           | (refine cnd_lt (fun _ => ?_) (fun _ => ?_) <;> first | (exfalso; omega) | (conv => whnf))
           | (refine cnd_eq (fun _ => ?_) (fun _ => ?_) <;> first | (exfalso; omega) | (conv => whnf)))
        · refine ⟨rfl, m + 2 - (k + 1), by omega, k + 1, _, (pq + c) / 4294967296, if w.getD k 0 < (pq + c) % 4294967296 + bo then 1 else 0, rfl, rfl, rfl, vi (by omega), vi (by omega), vi (by split <;> omega), by omega, by simp [hwl], mem_set_lt hwB (by omega), by omega, by split <;> omega, ⟨drop_of_drop hwd.out⟩, ⟨back_step (s := pq + c) (by omega) (by rw [hpq.out]) (by rw [← hwu.out]; split <;> omega) heq.out⟩⟩
        · obtain rfl : k = m + 2 := by omega
          have hE := last_step (x := xl) (E := 0) (by omega) (by unfold ln at hm; omega) hc (by rw [← hwu.out]; omega) heq.out
          rw [evl_dg two_le_B, ← hUt.out] at hE
          have hfin := (digit_end hD0.out hq.out hqG hGq hE (.inr (Nat.zero_mul _))).1 (Nat.zero_mul _)
          refine RetN.done ⟨w.set (m + 2) xl, rfl, rfl, vi (by have := hfin.1; omega), by simp [hwl], mem_set_lt hwB (by omega), ?_⟩
          rw [evl_whole (by simp; omega) (drop_of_drop hwd.out) htop.out]
          exact hfin.2
        · obtain rfl : k = m + 2 := by omega
          have hE := last_step (x := xl) (E := 1) (by omega) (by unfold ln at hm; omega) hc (by rw [← hwu.out]; omega) heq.out
          rw [evl_dg two_le_B, ← hUt.out, Nat.one_mul] at hE
          obtain ⟨y, hy⟩ : ∃ y, y = w.set (m + 2) xl := ⟨_, rfl⟩
          have hyl : y.length = u.length := by rw [hy]; simp [hwl]
          have hyB : ∀ x ∈ y, x < 4294967296 := by rw [hy]; exact mem_set_lt hwB (by omega)
          have hyd : Hq (y.drop (m + 3) = u.drop (m + 3)) := ⟨by rw [hy]; exact drop_of_drop hwd.out⟩
          rw [← hy] at hE
          have hpos : 0 < 4294967296 ^ (m + 3) := Nat.pow_pos (by omega)
          have hfin := (digit_end hD0.out hq.out hqG hGq hE (.inl (evl_low two_le_B hyB (by omega)))).2 hpos
          have hG1 := hfin.1
          replace hfin := Hq.mk hfin.2
          rw [← hy]
          replace hE := Hq.mk hE
          replace hpos := Hq.mk hpos
          refine LoopN.of (fun r ρ h' L => ∃ (k : Nat) (z : List Nat) (c : Nat), r = m + 2 - k ∧ h' = h3 ∧ L = [(b, Row .u32 Ty.uint32 (p ++ z))] ∧ rd ρ 141 = .int .i64 k ∧ rd ρ 10 = .int .u64 c ∧ k ≤ m + 2 ∧ z.length = u.length ∧ (∀ x ∈ z, x < 4294967296) ∧ c ≤ 1 ∧ Hq (z.drop k = y.drop k) ∧ Hq (evl 4294967296 (z.take k) + c * 4294967296 ^ k = evl 4294967296 (y.take k) + evl 4294967296 ((dg 4294967296 Dv).take k))) (m + 2)
            ⟨0, y, 0, rfl, rfl, rfl, rfl, rfl, by omega, hyl, hyB, by omega, ⟨rfl⟩, ⟨by simp [evl_nil]⟩⟩ ?_
          conv => whnf
          repeat intro _
          rename_i r3 h4 L4 hI
          obtain ⟨k, z, c, rfl, rfl, rfl, e0, e1, hk, hzl, hzB, hc, hzd, heq⟩ := hI
          conv at e0 => lhs; whnf
          subst e0
          conv at e1 => lhs; whnf
          subst e1
          have hdk := dg_getD_lt two_le_B Dv k
          have hzk := getD_lt (b := 4294967296) (by omega) hzB k
          obtain ⟨s3, hs3⟩ : ∃ s3, s3 = z.getD k 0 + c + (dg 4294967296 Dv).getD k 0 := ⟨_, rfl⟩
          obtain ⟨x3, hx3⟩ : ∃ x3, x3 = s3 % 4294967296 := ⟨_, rfl⟩
          obtain ⟨x4, hx4⟩ : ∃ x4, x4 = (z.getD k 0 + c) % 4294967296 := ⟨_, rfl⟩
          have hzu : Hq (z.getD k 0 = y.getD k 0) := ⟨getD_of_drop hzd.out (Nat.le_refl _)⟩
          conv => whnf
          repeat ((first | refine opsI.step ?_ | refine codeI.step ?_); conv => whnf)
          repeat' first
           | (show Idx _ _ _ _ _; first
             | (refine Idx.ws hd k (by omega) (by unfold ln at *; omega) (fun ad hv => ?_); conv => whnf)
             | (refine Idx.one k rfl (by omega) (by omega) ?_; conv => whnf))
           | (show Ld _ _ _ _; first
             | (refine Ld.of (by first | exact hv _ | (rename_i hv; exact hv _)) ?_; conv => whnf)
             | (refine Ld.win 0 rfl (by omega) ?_; conv => whnf))
           | (show ShrN _ _ _ _; first
             | (refine ShrN.e 32 (by decide) (by omega) (fun _ _ => ?_); conv => whnf))
           | (show WrapN _ _ _; first
             | (refine WrapN.u32e (fun _ _ => ?_); conv => whnf)
             | (refine WrapN.i64 (by omega) (by omega) ?_; conv => whnf)
             | (refine WrapN.u64 (by omega) (by omega) ?_; conv => whnf))
           | (show Sto _ _ _ _; first
             | (refine Sto.win 0 rfl x3 (by omega) (by omega) ?_; conv => whnf)
             | (refine Sto.win 0 rfl x4 (by omega) (by omega) ?_; conv => whnf))
           | ((first | refine opsI.step ?_ | refine codeI.step ?_); conv => whnf)
           | (show cnd _ _ _; first
             | (refine cnd_lt (fun _ => ?_) (fun _ => ?_) <;> first | (exfalso; omega) | (conv => whnf)))
          · refine ⟨rfl, m + 2 - (k + 1), by omega, k + 1, _, s3 / 4294967296, rfl, rfl, rfl, vi (by omega), vi (by omega), by omega, by simp [hzl], mem_set_lt hzB (by omega), by omega, ⟨drop_of_drop hzd.out⟩, ⟨by rw [hx3]; exact add_step (by omega) (by rw [← hzu.out]; exact hs3) heq.out⟩⟩
          · obtain rfl : k = m + 2 := by omega
            have hz0 : (dg 4294967296 Dv).getD (m + 2) 0 = 0 := getD_out (by unfold ln at hm; omega)
            have hA := add_step (b := 4294967296) (o := z) (da := y) (db := dg 4294967296 Dv) (k := m + 2) (c := c) (s := z.getD (m + 2) 0 + c) (by omega) (by rw [← hzu.out, hz0]; rfl) heq.out
            rw [evl_take_all (l := dg 4294967296 Dv) (by unfold ln at hm; omega), evl_dg two_le_B, hfin.out] at hA
            rw [← hx4] at hA
            have hB := mem_set_lt (k := m + 2) (x := x4) hzB (by omega)
            have hY := end_mod hA (evl_low two_le_B hB (by simp; omega)) (Nat.lt_of_lt_of_le (Nat.lt_trans (Nat.mod_lt _ hD0.out) hDB.out) (Nat.pow_le_pow_right (by omega) (by omega)))
            refine RetN.done ⟨z.set (m + 2) x4, rfl, rfl, vi (by omega), by simp [hzl], hB, ?_⟩
            rw [evl_whole (u := u) (k := m + 3) (by simp; omega) ((drop_of_drop hzd.out).trans hyd.out) htop.out]
            exact hY
end Go.Proofs.YteblflmnhegmjaaDoor
