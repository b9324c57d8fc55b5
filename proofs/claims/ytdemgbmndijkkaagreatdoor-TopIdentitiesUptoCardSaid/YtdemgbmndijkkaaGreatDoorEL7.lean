/- Package elem: pi, the waves of sine and cosine. -/
import Derived.Test.YtdemgbmndijkkaaGreatDoorEL6
set_option linter.unusedVariables false
set_option linter.unusedSimpArgs false
namespace Go.Proofs.YtdemgbmndijkkaaGreatDoor
open Go Go.Vc Go.Dig
theorem CallN.keep1 {T : Tab} {f : FuncId} {args : List Value} {h : Heap} {k : Value → Heap → Vc.Own → Prop} {x : Nat × Obj} {b : Nat} {p : Obj} {tl : Vc.Own} (hf : T.fn f = true)
    (hk : ∀ h', h.le h' → h' b = some p → CallN T f args h' (x :: tl) k) : CallN T f args h (x :: (b, p) :: tl) k :=
  CallN.keep 1 rfl hf fun h1 => hk _ h1 (by simp [Heap.put])
theorem HasLe.keep1 {h h' : Heap} {x : Nat × Obj} {b : Nat} {p : Obj} {tl : Vc.Own} (hl : h.le h') (hb : h' b = some p) : HasLe h (x :: (b, p) :: tl) h' (x :: tl) := by
  intro a v hs
  obtain ⟨hn, c, T, fz, ho, hv⟩ := hs
  refine ⟨hn, c, T, fz, ?_, hv⟩
  rcases ho with ho | ho
  · exact .inl (hl _ _ ho)
  · rcases List.mem_cons.1 ho with e | ho
    · exact .inr (List.mem_cons.2 (.inl e))
    · rcases List.mem_cons.1 ho with e | ho
      · refine .inl ?_
        have e1 := (Prod.mk.inj e).1
        have e2 := (Prod.mk.inj e).2
        rw [e1, hb, e2]
      · exact .inr (List.mem_cons.2 (.inr ho))
set_option maxRecDepth 20000 in
theorem pi_ct (h : Heap) (tb : Tb h) (w : Nat) (x : Int) (hx : x = w) (hw : w ≤ 192) (hw7 : 64 ≤ w) :
    Fn0 T F.elem_pi [.int .i64 x] h fun v h' => PairR h' v (An.piA w).1 (An.piA w).2 60 := by
  subst hx
  obtain ⟨z1, z2, -, -, -⟩ := An.piChk_at hw7 hw
  obtain ⟨y1, y2⟩ := An.piA_le (w := w) (by omega)
  have l1 := Nat.le_trans (ln_le_of_le y1) (show ln 4294967296 (2 ^ (w + 4)) ≤ 60 from ln_two_pow_le (by omega))
  have l2 := Nat.le_trans (ln_le_of_le y2) (show ln 4294967296 (2 ^ (w + 4)) ≤ 60 from ln_two_pow_le (by omega))
  have e0 : An.piA w = ((An.atA (2 ^ w / 5) (An.cd (2 ^ w) 5) w).1 * 16 - (An.atA (2 ^ w / 239) (An.cd (2 ^ w) 239) w).2 * 4, (An.atA (2 ^ w / 5) (An.cd (2 ^ w) 5) w).2 * 16 - (An.atA (2 ^ w / 239) (An.cd (2 ^ w) 239) w).1 * 4) := rfl
  have k1 := fun h tb bl T0 fz hc => pi1_ct h tb bl T0 fz 5 w hc (by omega) (by omega) (by omega) (by omega)
  have k2 := fun h tb bl T0 fz hc => pi1_ct h tb bl T0 fz 239 w hc (by omega) (by omega) (by omega) (by omega)
  obtain ⟨R, hR⟩ : ∃ R, R = An.piA w := ⟨_, rfl⟩
  obtain ⟨P1, hP1⟩ : ∃ R, R = An.atA (2 ^ w / 5) (An.cd (2 ^ w) 5) w := ⟨_, rfl⟩
  obtain ⟨P2, hP2⟩ : ∃ R, R = An.atA (2 ^ w / 239) (An.cd (2 ^ w) 239) w := ⟨_, rfl⟩
  rw [← hR] at e0 l1 l2 ⊢
  rw [← hP1] at e0 k1 z1 z2
  rw [← hP2] at e0 k2 z1 z2
  clear hR hP1 hP2 y1 y2
  have e1 := congrArg Prod.fst e0
  have e2 := congrArg Prod.snd e0
  simp only at e1 e2
  clear e0
  refine fn0_of_codeI ok D.elem_pi rfl ?_
  conv => whnf
  repeat ((first | refine opsI.step ?_ | refine codeI.step ?_); conv => whnf)
  repeat' first
   | (show CallN _ _ _ _ _ _; first
     | (refine CallN.keep1 rfl (fun hg hlg hcg => ?_); refine CallN.fn rfl (k1 _ (by (iterate 30 (try first | assumption | refine Tb.mono ?_ (by assumption))); first | done | assumption) _ _ _ hcg) (fun v h' hl hr => ?_); obtain ⟨s', t', rfl, hs', ht'⟩ := hr; conv => whnf)
     | (refine CallN.fn rfl (k2 _ (by (iterate 30 (try first | assumption | refine Tb.mono ?_ (by assumption))); first | done | assumption) _ _ _ ((Heap.le_trans (by assumption : Heap.le hg _) (by assumption)) _ _ hcg)) (fun v h' hl hr => ?_); obtain ⟨s', t', rfl, hs', ht'⟩ := hr; conv => whnf)
     | (refine CallN.fn rfl (times_ct _ _ _ _ _ _ 4 _ rfl (Nz.mono (by assumption) (by (iterate 30 (try first | assumption | exact Heap.le_refl _)); first | done | assumption)) (Nz.mono (by assumption) (by (iterate 30 (try first | assumption | exact Heap.le_refl _)); first | done | assumption)) (by omega) (by omega)) (fun v h' hl hr => ?_); obtain ⟨s', t', rfl, hs', ht'⟩ := hr; conv => whnf)
     | (refine CallN.fn rfl (times_ct _ _ _ _ _ _ 2 _ rfl (Nz.mono (by assumption) (by (iterate 30 (try first | assumption | exact Heap.le_refl _)); first | done | assumption)) (Nz.mono (by assumption) (by (iterate 30 (try first | assumption | exact Heap.le_refl _)); first | done | assumption)) (by omega) (by omega)) (fun v h' hl hr => ?_); obtain ⟨s', t', rfl, hs', ht'⟩ := hr; conv => whnf)
     | (refine CallN.fn rfl (SubZ _ _ _ _ _ _ _ (Nz.mono (by assumption) (by (iterate 30 (try first | assumption | refine Heap.le_trans ?_ (by assumption))); first | done | assumption)) (Nz.mono (by assumption) (by (iterate 30 (try first | assumption | exact Heap.le_refl _)); first | done | assumption)) (by omega) (by first | exact z1 | exact z2)) (fun v h' hl hr => ?_); obtain ⟨s', rfl, hs'⟩ := hr; conv => whnf))
   | ((first | refine opsI.step ?_ | refine codeI.step ?_); conv => whnf)
   | (refine ⟨fun _ => HasLe.of_le (by assumption), ?_⟩; conv => whnf)
   | (refine ⟨fun hst => (by cases (show true = false from hst)), ?_⟩; conv => whnf)
   | (intro (_ : Nat); conv => whnf)
   | (show LdN _ _ _ _ _; first
     | (refine LdN.own 2 rfl rfl ?_; conv => whnf))
   | (show Ld _ _ _ _; first
     | (refine Ld.own 0 rfl rfl ?_; conv => whnf)
     | (refine Ld.own 1 rfl rfl ?_; conv => whnf))
   | (show Sto _ _ _ _; first
     | (refine Sto.lit 0 rfl rfl rfl ?_; conv => whnf)
     | (refine Sto.lit 1 rfl rfl rfl ?_; conv => whnf)
     | (refine Sto.lit 2 rfl rfl rfl ?_; conv => whnf))
   | (show DrawN _ _ _ _ _ _; first
     | (refine DrawN.run (by decide +kernel) ?_; conv => whnf))
  all_goals exact RetN.all ⟨_, _, rfl, Nz.by_ln (Nz.re (Nz.mono (by assumption) (by assumption)) e1.symm) l1, Nz.by_ln (Nz.re (Nz.mono (by assumption) (by (iterate 30 (try first | assumption | exact Heap.le_refl _)); first | done | assumption)) e2.symm) l2⟩
theorem conv_d {i g d : Nat} (hd : d = (2 * i + g + 1) * (2 * i + g + 2)) (x y : Int) (hx : x = 2 * (i : Int) + g + 1) (hy : y = 2 * (i : Int) + g + 2) : x * y = (d : Int) := by
  rw [hx, hy, hd, Int.natCast_mul]; rfl
set_option maxRecDepth 20000 in
set_option maxHeartbeats 2000000 in
theorem waves_ct (h : Heap) (tb : Tb h) (a : Sl) (y k w g : Nat) (x z : Int) (hx : x = w) (hz : z = (g : Int) + 1) (ha : Nz h a y k) (hk : k ≤ 2200) (hy : y ≤ 2 ^ w) (hw : w ≤ 200) (hg : g ≤ 1) :
    Fn0 T F.elem_waves [a.val, .int .i64 x, .int .i64 z] h fun v h' => PairR h' v (An.wvA y w g).1 (An.wvA y w g).2 60 := by
  subst hx hz
  have lw : ln 4294967296 (2 ^ w) ≤ 60 := ln_two_pow_le (by omega)
  have sq := fun h tb ha hb => square_ct h tb a a y y k w (w : Int) rfl ha hb (by omega) (by omega)
  obtain ⟨s1, s2⟩ := An.sq_le_unit hy
  have e0 : An.wvA y w g = An.wvP (y * y / 2 ^ w) (An.cd (y * y) (2 ^ w)) w g 24 := rfl
  obtain ⟨sl, hsl⟩ : ∃ s, s = y * y / 2 ^ w := ⟨_, rfl⟩
  obtain ⟨sh, hsh⟩ : ∃ s, s = An.cd (y * y) (2 ^ w) := ⟨_, rfl⟩
  rw [← hsl] at sq s1 e0
  rw [← hsh] at sq s2 e0
  have bb := fun k => An.wvP_le (sl := sl) (sh := sh) (w := w) (g := g) k
  have b1 := fun k => Nat.le_trans (ln_le_of_le (bb k).1) lw
  have b2 := fun k => Nat.le_trans (ln_le_of_le (bb k).2) lw
  have o1 := fun k d (hd : 0 < d) => An.wv_sub (d := d) s2 (bb k).2 hd
  have o2 := fun k d (hd : 0 < d) => An.wv_sub (d := d) s1 (bb k).1 hd
  have hp0 : ∀ c : Nat, 0 < c → c * 2 ^ w ≠ 0 := fun c hc => Nat.ne_of_gt (Nat.mul_pos hc (Nat.two_pow_pos w))
  obtain ⟨R, hR⟩ : ∃ R, R = An.wvA y w g := ⟨_, rfl⟩
  rw [← hR] at e0 ⊢
  clear hsl hsh hR s1 s2 lw bb
  replace o1 := Hq.mk o1
  replace o2 := Hq.mk o2
  refine fn0_of_codeI ok D.elem_waves rfl ?_
  conv => whnf
  repeat ((first | refine opsI.step ?_ | refine codeI.step ?_); conv => whnf)
  repeat' first
   | (show CallN _ _ _ _ _ _; first
     | (refine CallN.fn rfl (sq _ (by assumption) (Nz.mono (by assumption) (by (iterate 30 (try first | assumption | exact Heap.le_refl _)); first | done | assumption)) (Nz.mono (by assumption) (by (iterate 30 (try first | assumption | exact Heap.le_refl _)); first | done | assumption))) (fun v h' hl hr => ?_); obtain ⟨s', t', rfl, hs', ht'⟩ := hr; conv => whnf)
     | (refine CallN.fn rfl (unit_ct _ w _ (by omega) (by omega)) (fun v h' hl hr => ?_); obtain ⟨s', rfl, hs'⟩ := hr; conv => whnf))
   | ((first | refine opsI.step ?_ | refine codeI.step ?_); conv => whnf)
   | (intro (_ : Nat); conv => whnf)
   | (show Sto _ _ _ _; first
     | (refine Sto.lit 0 rfl rfl rfl ?_; conv => whnf))
  refine LoopN.keepL (fun r ρ hx => ∃ (k : Nat) (s8 s9 : Sl), r = 24 - k ∧ k ≤ 24 ∧ rd ρ 10 = .int .i64 (23 - (k : Int)) ∧ rd ρ 8 = s8.val ∧ rd ρ 9 = s9.val ∧ Nz hx s8 (An.wvP sl sh w g k).1 60 ∧ Nz hx s9 (An.wvP sl sh w g k).2 60) 24
    ⟨0, ⟨none, 0, 0⟩, _, rfl, by omega, rfl, rfl, rfl, ⟨IsNat.nil rfl, b1 0⟩, Nz.by_ln (Nz.re (Nz.mono (by assumption) (by (iterate 30 (try first | assumption | exact Heap.le_refl _)); first | done | assumption)) rfl) (b2 0)⟩ ?_
  conv => whnf
  repeat intro _
  rename_i r hy hle2 hI
  obtain ⟨k, s8, s9, rfl, hk, e10, e8, e9, n8, n9⟩ := hI
  conv at e10 => lhs; whnf
  subst e10
  conv at e8 => lhs; whnf
  subst e8
  conv at e9 => lhs; whnf
  subst e9
  by_cases hk24 : k = 24
  · subst hk24
    rw [← e0] at n8 n9
    have b1 := b1 24
    have b2 := b2 24
    rw [← e0] at b1 b2
    conv => whnf
    repeat ((first | refine opsI.step ?_ | refine codeI.step ?_); conv => whnf)
    repeat' first
     | ((first | refine opsI.step ?_ | refine codeI.step ?_); conv => whnf)
     | (show cnd _ _ _; first
       | (refine cnd_le (fun _ => ?_) (fun _ => ?_) <;> first | (exfalso; omega) | (conv => whnf)))
     | (show LdN _ _ _ _ _; first
       | (refine LdN.own 1 rfl rfl ?_; conv => whnf))
     | (show Sto _ _ _ _; first
       | (refine Sto.lit 1 rfl rfl rfl ?_; conv => whnf))
    all_goals exact RetN.all ⟨_, _, rfl, (Nz.mono (by assumption) (by (iterate 30 (try first | assumption | exact Heap.le_refl _)); first | done | assumption)), (Nz.mono (by assumption) (by (iterate 30 (try first | assumption | exact Heap.le_refl _)); first | done | assumption))⟩
  · have d1 := b1 (k + 1)
    have d2 := b2 (k + 1)
    have o1 := o1.out k
    have o2 := o2.out k
    have e1 : An.wvP sl sh w g (k + 1) = ((2 ^ (2 * w) * ((2 * (23 - k) + g + 1) * (2 * (23 - k) + g + 2)) - sh * (An.wvP sl sh w g k).2) / ((2 * (23 - k) + g + 1) * (2 * (23 - k) + g + 2) * 2 ^ w),
     An.cd (2 ^ (2 * w) * ((2 * (23 - k) + g + 1) * (2 * (23 - k) + g + 2)) - sl * (An.wvP sl sh w g k).1) ((2 * (23 - k) + g + 1) * (2 * (23 - k) + g + 2) * 2 ^ w)) := rfl
    obtain ⟨P, hP⟩ : ∃ l, l = An.wvP sl sh w g k := ⟨_, rfl⟩
    obtain ⟨i, hi⟩ : ∃ i, i = 23 - k := ⟨_, rfl⟩
    obtain ⟨d, hd⟩ : ∃ d, d = (2 * i + g + 1) * (2 * i + g + 2) := ⟨_, rfl⟩
    have hd0 : 0 < d := by rw [hd]; exact Nat.mul_pos (by omega) (by omega)
    have hd9 : d ≤ 3000 := by rw [hd]; exact Nat.le_trans (Nat.mul_le_mul (show _ ≤ 50 by omega) (show _ ≤ 50 by omega)) (by omega)
    have cv := fun x y => conv_d hd x y
    rw [← hP, ← hi, ← hd] at e1
    rw [← hP] at n8 n9 o1 o2
    have o1 := o1 d hd0
    have o2 := o2 d hd0
    have ho0 := hp0 d hd0
    obtain ⟨lo, hlo⟩ : ∃ x, x = P.1 := ⟨_, rfl⟩
    obtain ⟨hi', hhi⟩ : ∃ x, x = P.2 := ⟨_, rfl⟩
    rw [← hlo] at n8 e1 o2
    rw [← hhi] at n9 e1 o1
    have e3 := congrArg Prod.fst e1
    have e4 := congrArg Prod.snd e1
    simp only at e3 e4
    clear hP b1 b2 hp0 hlo hhi e1 e0 hd
    conv => whnf
    repeat ((first | refine opsI.step ?_ | refine codeI.step ?_); conv => whnf)
    repeat' first
     | (show WrapN _ _ _; first
       | (refine WrapN.i64 (by rw [cv _ _ (by omega) (by omega)]; omega) (by rw [cv _ _ (by omega) (by omega)]; omega) ?_; conv => whnf)
       | (refine WrapN.u64v d (by rw [cv _ _ (by omega) (by omega)]; omega) ?_; conv => whnf)
       | (refine WrapN.i64 (by omega) (by omega) ?_; conv => whnf))
     | (show CallN _ _ _ _ _ _; first
       | (refine CallN.fn rfl (SmallZ _ d (by omega)) (fun v h' hl hr => ?_); obtain ⟨s', rfl, hs'⟩ := hr; conv => whnf)
       | (refine CallN.fn rfl (unit_ct _ (2 * w) _ (by omega) (by omega)) (fun v h' hl hr => ?_); obtain ⟨s', rfl, hs'⟩ := hr; conv => whnf)
       | (refine CallN.fn rfl (MulZ _ _ _ _ _ _ _ (Nz.mono (by assumption) (by (iterate 30 (try first | assumption | exact Heap.le_refl _ | refine Heap.le_trans ?_ (by assumption))); first | done | assumption)) (Nz.mono (by assumption) (by (iterate 30 (try first | assumption | refine Heap.le_trans ?_ (by assumption))); first | done | assumption)) (by omega) (by omega)) (fun v h' hl hr => ?_); obtain ⟨s', rfl, hs'⟩ := hr; conv => whnf)
       | (refine CallN.fn rfl (SubZ _ _ _ _ _ _ _ (Nz.mono (by assumption) (by (iterate 30 (try first | assumption | refine Heap.le_trans ?_ (by assumption))); first | done | assumption)) (Nz.mono (by assumption) (by (iterate 30 (try first | assumption | exact Heap.le_refl _)); first | done | assumption)) (by omega) (by first | exact o1 | exact o2)) (fun v h' hl hr => ?_); obtain ⟨s', rfl, hs'⟩ := hr; conv => whnf)
       | (refine CallN.fn rfl (ShlZ _ _ _ _ w _ (by omega) (Nz.mono (by assumption) (by (iterate 30 (try first | assumption | refine Heap.le_trans ?_ (by assumption))); first | done | assumption)) (by omega) (by omega)) (fun v h' hl hr => ?_); obtain ⟨s', rfl, hs'⟩ := hr; conv => whnf)
       | (refine CallN.fn rfl (over_ct _ _ _ _ _ _ _ _ (Nz.mono (by assumption) (by (iterate 30 (try first | assumption | refine Heap.le_trans ?_ (by assumption))); first | done | assumption)) (Nz.mono (by assumption) (by (iterate 30 (try first | assumption | exact Heap.le_refl _)); first | done | assumption)) (by omega) (by omega) (by first | assumption | omega)) (fun v h' hl hr => ?_); obtain ⟨s', rfl, hs'⟩ := hr; conv => whnf))
     | ((first | refine opsI.step ?_ | refine codeI.step ?_); conv => whnf)
     | (refine ⟨fun _ => HasLe.of_le (by assumption), ?_⟩; conv => whnf)
     | (show cnd _ _ _; first
       | (refine cnd_le (fun _ => ?_) (fun _ => ?_) <;> first | (exfalso; omega) | (conv => whnf)))
     | (show Ld _ _ _ _; first
       | (refine Ld.own 0 rfl rfl ?_; conv => whnf))
     | (show DrawN _ _ _ _ _ _; first
       | (refine DrawN.run (by decide +kernel) ?_; conv => whnf))
    all_goals exact ⟨rfl, 24 - (k + 1), by omega, (by (iterate 30 (try first | assumption | refine Heap.le_trans ?_ (by assumption))); first | done | assumption), rfl, k + 1, _, _, rfl, by omega, vi (by omega), rfl, rfl, Nz.by_ln (Nz.re (Nz.mono (by assumption) (by (iterate 30 (try first | assumption | refine Heap.le_trans ?_ (by assumption))); first | done | assumption)) ((if_neg (by decide)).trans e3.symm)) d1, Nz.by_ln (Nz.re (Nz.mono (by assumption) (by (iterate 30 (try first | assumption | exact Heap.le_refl _)); first | done | assumption)) ((if_pos rfl).trans e4.symm)) d2⟩
end Go.Proofs.YtdemgbmndijkkaaGreatDoor