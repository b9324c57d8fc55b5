/- Package elem: the remainder of an angle: the walk. -/
import Derived.Test.YtdemgbmndijkkaaGreatDoorEL12
set_option linter.unusedVariables false
set_option linter.unusedSimpArgs false
namespace Go.Proofs.YtdemgbmndijkkaaGreatDoor
open Go Go.Vc Go.Dig
theorem CallN.keepIJ {T : Tab} {f : FuncId} {args : List Value} {h : Heap} {L : Vc.Own} {k : Value → Heap → Vc.Own → Prop} {b c : Nat} {p q : Obj} (i j : Nat) (hi : L[i]? = some (b, p)) (hj : (L.eraseIdx i)[j]? = some (c, q)) (hf : T.fn f = true)
    (hk : ∀ h', h.le h' → h' b = some p → h' c = some q → CallN T f args h' ((L.eraseIdx i).eraseIdx j) k) : CallN T f args h L k :=
  CallN.keep i hi hf fun h1 => CallN.keep j hj hf fun h2 => hk _ (Heap.le_trans h1 h2) (h2 _ _ (by simp [Heap.put])) (by simp [Heap.put])
theorem row_one {h : Heap} {b n : Nat} {T0 : TypeId} {fz : Nat × Nat} (e : h b = some (.cells #[.int .u32 (n : Int)] T0 fz)) : Ws .u32 h ⟨some ⟨b, 0, none⟩, 1, 1⟩ [n] :=
  ⟨rfl, Nat.le_refl _, fun _ => ⟨b, 0, _, T0, fz, rfl, e, fun i hi => by
    obtain rfl : i = 0 := by simpa using hi
    rfl⟩⟩
theorem num_half {h : Heap} {b c : Nat} {T0 T1 : TypeId} {fz fy : Nat × Nat} (e1 : h b = some (.cells #[.int .u32 (1 : Int)] T0 fz)) (e2 : h c = some (.cells #[.int .u32 (2 : Int)] T1 fy)) :
    IsNum h false ⟨some ⟨b, 0, none⟩, 1, 1⟩ ⟨some ⟨c, 0, none⟩, 1, 1⟩ (some (mkQ false 1 2)) := by
  refine ⟨[1], [2], ⟨row_one (n := 1) e1, row_one (n := 2) e2, by simp, by simp, by simp, by simp⟩, ?_⟩
  have er : ratOf false [1] [2] = mkQ false 1 2 := by
    unfold ratOf
    rw [show evl 4294967296 [1] = 1 by unfold evl evl; rfl, show evl 4294967296 [2] = 2 by unfold evl evl; rfl, if_neg (by decide)]
  have l1 : ln 4294967296 1 ≤ 1 := by rw [ln_one _ two_le_B]; exact Nat.le_refl _
  have l2 : ln 4294967296 2 ≤ 1 := ln_two_pow_le (n := 1) (by omega)
  have hle := mkQ_le false (m := 1) (n := 2) (by decide)
  unfold valOf
  rw [if_pos ?_, er]
  unfold okR
  rw [er, show evl 4294967296 [1] = 1 by unfold evl evl; rfl, show evl 4294967296 [2] = 2 by unfold evl evl; rfl]
  exact ⟨by omega, by omega, Nat.le_trans (ln_le_of_le hle.1) (by omega), Nat.le_trans (ln_le_of_le hle.2) (by omega)⟩
theorem FloorQ (h : Heap) (tb : Tb h) (a b : Sl) (y z : Rat) (w : IsRat h a b y) (fy : fits y) (hz : gridQ y 0 false = z) (fz : fits z) :
    Fn0 T F.number_Floor [.agg #[.bool (sg y), a.val, b.val]] h fun v h' => ∃ a b : Sl, v = .tuple #[.agg #[.bool (sg z), a.val, b.val], .int .i64 0] ∧ IsRat h' a b z := by
  have e : spec1 (fun q => gridQ q 0 false) (sg y) (dg 4294967296 (nu y)) (dg 4294967296 (dn y)) = (z, 0) := by
    unfold spec1
    rw [if_pos (okR_dg fy), ratOf_dg]
    show outR (gridQ y 0 false) = _
    rw [hz]; exact if_pos fz
  refine (NFloor_ct h tb (sg y) a b _ _ (israt_val w (fits_sz fy))).mono fun v h' _ r => ?_
  rw [e] at r
  exact r
set_option maxRecDepth 20000 in
set_option maxHeartbeats 40000000 in
theorem rest_ct (h : Heap) (tb : Tb h) (a b : Sl) (x f g kq y1 y2 lo hi : Rat) (w Y Z : Nat) (k : Int) (xx : Int) (hxx : xx = w) (hx : IsRat h a b x) (fx : fits x) (h1 : 64 ≤ w) (h2 : w ≤ 192)
    (ef : f = mkQ false (An.piA w).1 (2 ^ (w + 1))) (eg : g = mkQ false (An.piA w).2 (2 ^ (w + 1))) (n : RestN x f g kq y1 y2 lo hi w Y Z k) :
    Fn0 T F.elem_rest [.agg #[.bool (sg x), a.val, b.val], .int .i64 xx] h fun v h' => ∃ v', v = .tuple #[v', .int .i64 (k % 4)] ∧ BrR h' v' lo hi := by
  subst hxx
  obtain ⟨p1, p2⟩ := An.piA_le (w := w) (by omega)
  have kp := fun h tb => pi_ct h tb w (w : Int) rfl h2 h1
  have r1 := fun h tb s xx hx ns => rational_ct h tb s (An.piA w).1 60 (w + 1) false xx hx ns (ln_of_le2 p1 (by omega)) (by omega)
  have r2 := fun h tb s xx hx ns => rational_ct h tb s (An.piA w).2 60 (w + 1) false xx hx ns (ln_of_le2 p2 (by omega)) (by omega)
  rw [← ef] at r1
  rw [← eg] at r2
  have kd := fun h n1 a1 b1 n2 a2 b2 tb u v => DivN h n1 a1 b1 n2 a2 b2 (some x) (some f) tb u v
  rw [divR_of n.f0 n.q1] at kd
  have ka := fun h n1 a1 b1 n2 a2 b2 tb u v => AddN h n1 a1 b1 n2 a2 b2 (some (x / f)) (some (mkQ false 1 2)) tb u v
  rw [opR_add n.q2] at ka
  have kf := fun h tb a b w => FloorQ h tb a b (x / f + mkQ false 1 2) kq w n.q2 n.q3 n.q4
  have km := fun h a b w => modulo_ct h a b kq k n.hk w n.q4
  have kdn := fun h a b tb u => DownN h (sg y1) a b (some y1) (w : Int) tb u
  have kup := fun h a b tb u => UpN h (sg y2) a b (some y2) (w : Int) tb u
  rw [gridR_ok (by omega) (by rw [n.e3]; exact n.q9), n.e3] at kdn
  rw [gridR_ok (by omega) (by rw [n.e4]; exact n.q10), n.e4] at kup
  have fx' := hx.isnum fx
  obtain ⟨D1, hD1⟩ : ∃ D1, D1 = x / f := ⟨_, rfl⟩
  obtain ⟨D2, hD2⟩ : ∃ D2, D2 = D1 + mkQ false 1 2 := ⟨_, rfl⟩
  rw [← hD1] at kd ka kf
  rw [← hD2] at ka kf
  clear hD1 hD2 p1 p2 ef eg
  have q7 := n.q7
  have q8 := n.q8
  have q9 := n.q9
  have q10 := n.q10
  by_cases hk0 : k < 0
  · have hs : sg kq = true := by rw [n.hk, sg_int, decide_eq_true hk0]
    have q5 := n.q5; have q6 := n.q6; have e1 := n.e1; have e2 := n.e2
    rw [if_pos hk0] at q5 q6 e1 e2
    have kc1 := fun h tb b1 b2 a b w1 w2 hc => rest1_ct h tb b1 b2 a b kq x f y1 w1 w2 hc n.q4 fx n.ff q5 n.q7 e1
    have kc2 := fun h tb b1 b2 a b w1 w2 hc => rest1_ct h tb b1 b2 a b kq x g y2 w1 w2 hc n.q4 fx n.fg q6 n.q8 e2
    rw [hs] at kf km
    replace hs := Hq.mk hs
    clear q5 q6 e1 e2 n
    refine fn0_of_codeI ok D.elem_rest rfl ?_
    conv => whnf
    repeat ((first | refine opsI.step ?_ | refine codeI.step ?_); conv => whnf)
    repeat' first
     | (show SeqN _ _ _ _ _ _ _; first
       | (refine SeqN.go ?_; conv => whnf))
     | (show DrawN _ _ _ _ _ _; first
       | (refine DrawN.run (by decide +kernel) ?_; conv => whnf)
       | (refine DrawN.own [_, _, _, _, _, _] (by exact List.Sublist.refl _) (by decide +kernel) ?_; conv => whnf)
       | (refine DrawN.own [_, _, _, _, _, _] (by exact List.Sublist.cons _ (List.Sublist.cons _ (List.Sublist.refl _))) (by decide +kernel) ?_; conv => whnf))
     | (show LdN _ _ _ _ _; first
       | (refine LdN_hasN [.bool true, ua.val, ub.val] rfl (fun i v hv => Has.imm ((by first | exact Heap.le_refl _ | assumption | exact Heap.le_trans (by assumption) (by assumption) | exact Heap.le_trans (by assumption) (Heap.le_trans (by assumption) (by assumption)) | exact Heap.le_trans (by assumption) (Heap.le_trans (by assumption) (Heap.le_trans (by assumption) (by assumption))) : Heap.le hg2 _) _ _ hb1) (by rw [Nat.zero_add]; exact (List.getElem?_toArray ..).trans hv)) ?_; conv => whnf)
       | (refine LdN.ownAt 0 rfl rfl ?_; conv => whnf)
       | (refine LdN.ownAt 1 rfl rfl ?_; conv => whnf)
       | (refine LdN.own 2 rfl rfl ?_; conv => whnf)
       | (refine LdN.own 4 rfl rfl ?_; conv => whnf)
       | (refine LdN.own 6 rfl rfl ?_; conv => whnf))
     | (refine ⟨fun _ => ⟨HasLe.of_le (by first | exact Heap.le_refl _ | assumption | exact Heap.le_trans (by assumption) (by assumption)), by repeat first | exact List.nil_sublist _ | apply List.Sublist.cons_cons | apply List.Sublist.cons⟩, ?_⟩; conv => whnf)
     | ((first | refine opsI.step ?_ | refine codeI.step ?_); conv => whnf)
     | (refine ⟨fun _ => HasLe.of_le (by assumption), ?_⟩; conv => whnf)
     | (refine ⟨fun _ => HasLe.cons _, ?_⟩; conv => whnf)
     | (refine ⟨fun hst => (by cases (show true = false from hst)), ?_⟩; conv => whnf)
     | (intro (_ : Nat); conv => whnf)
     | (show CallN _ _ _ _ _ _; first
       | (refine CallN.fn rfl (kp _ (by assumption)) (fun v h' hl hr => ?_); obtain ⟨s', t', rfl, hs', ht'⟩ := hr; conv => whnf)
       | (refine CallN.fn rfl (r1 _ (by (iterate 30 (try first | assumption | refine Tb.mono ?_ (by assumption))); first | done | assumption) _ _ (by omega) (Nz.mono (by assumption) (by (iterate 30 (try first | assumption | exact Heap.le_refl _)); first | done | assumption))) (fun v h' hl hr => ?_); obtain ⟨fa, fb, rfl, hrf, hff⟩ := hr; have mf := hrf.isnum hff; conv => whnf)
       | (refine CallN.fn rfl (r2 _ (by (iterate 30 (try first | assumption | refine Tb.mono ?_ (by assumption))); first | done | assumption) _ _ (by omega) (Nz.mono (by assumption) (by assumption))) (fun v h' hl hr => ?_); obtain ⟨ga, gb, rfl, hrg, hfg⟩ := hr; have mg := hrg.isnum hfg; conv => whnf)
       | (refine CallN.fn rfl (kd _ _ _ _ _ _ _ (by (iterate 30 (try first | assumption | refine Tb.mono ?_ (by assumption))); first | done | assumption) (fx'.mono (by (iterate 30 (try first | assumption | refine Heap.le_trans ?_ (by assumption))); first | done | assumption)) (mf.mono (by assumption))) (fun v h' hl hr => ?_); obtain ⟨da, db, rfl, hrd, hmd⟩ := hr; conv => whnf)
       | (refine CallN.keepIJ 0 0 rfl rfl rfl (fun hg1 hlg1 hc2 hc1 => ?_); refine CallN.fn rfl (ka _ _ _ _ _ _ _ (by (iterate 30 (try first | assumption | refine Tb.mono ?_ (by assumption))); first | done | assumption) (hmd.mono (by assumption)) (num_half hc1 hc2)) (fun v h' hl hr => ?_); obtain ⟨ea, eb, rfl, hre, hme⟩ := hr; conv => whnf)
       | (refine CallN.fn rfl (kf _ (by (iterate 30 (try first | assumption | refine Tb.mono ?_ (by assumption))); first | done | assumption) _ _ (hre.mono (by (iterate 30 (try first | assumption | exact Heap.le_refl _)); first | done | assumption))) (fun v h' hl hr => ?_); obtain ⟨ua, ub, rfl, hru⟩ := hr; conv => whnf)
       | (refine CallN.keepIJ 3 7 rfl rfl rfl (fun hg2 hlg2 hb1 hb2 => ?_); have bx1 : Boxed hg2 _ kq := ⟨_, _, _, _, (by rw [hs.out]; exact hb1), hru.mono (by assumption)⟩; have bx2 : Boxed hg2 _ x := ⟨_, _, _, _, hb2, hx.mono (by (iterate 30 (try first | assumption | refine Heap.le_trans ?_ (by assumption))); first | done | assumption)⟩; refine CallN.fn rfl (kc1 _ (by (iterate 30 (try first | assumption | refine Tb.mono ?_ (by assumption))); first | done | assumption) _ _ _ _ bx1 bx2 (by (iterate 30 (try first | assumption | refine IsRat.mono ?_ (by assumption))); first | done | assumption)) (fun v h' hl hr => ?_); obtain ⟨va, vb, rfl, hrv⟩ := hr; have mv := hrv.isnum q7; conv => whnf)
       | (refine CallN.fn rfl (kdn _ _ _ (by (iterate 30 (try first | assumption | refine Tb.mono ?_ (by assumption))); first | done | assumption) (mv.mono (by (iterate 30 (try first | assumption | exact Heap.le_refl _)); first | done | assumption))) (fun v h' hl hr => ?_); obtain ⟨wa, wb, rfl, hrw, hmw⟩ := hr; conv => whnf)
       | (refine CallN.fn rfl (kc2 _ (by (iterate 30 (try first | assumption | refine Tb.mono ?_ (by assumption))); first | done | assumption) _ _ _ _ (bx1.mono (by (iterate 30 (try first | assumption | refine Heap.le_trans ?_ (by assumption))); first | done | assumption)) (bx2.mono (by (iterate 30 (try first | assumption | refine Heap.le_trans ?_ (by assumption))); first | done | assumption)) (by (iterate 30 (try first | assumption | refine IsRat.mono ?_ (by assumption))); first | done | assumption)) (fun v h' hl hr => ?_); obtain ⟨xa, xb, rfl, hrx⟩ := hr; have mx := hrx.isnum q8; conv => whnf)
       | (refine CallN.fn rfl (kup _ _ _ (by (iterate 30 (try first | assumption | refine Tb.mono ?_ (by assumption))); first | done | assumption) (mx.mono (by (iterate 30 (try first | assumption | exact Heap.le_refl _)); first | done | assumption))) (fun v h' hl hr => ?_); obtain ⟨ya, yb, rfl, hry, hmy⟩ := hr; conv => whnf)
       | (refine CallN.fn rfl (km _ _ _ (hru.mono (by (iterate 30 (try first | assumption | refine Heap.le_trans ?_ (by assumption))); first | done | assumption))) (fun v h' hl hr => ?_); subst hr; conv => whnf))
     | (show WrapN _ _ _; first
       | (refine WrapN.i64 (by omega) (by omega) ?_; conv => whnf))
     | (show Ld _ _ _ _; first
       | (refine Ld.own 0 rfl rfl ?_; conv => whnf)
       | (refine Ld.own 2 rfl rfl ?_; conv => whnf))
     | (show Sto _ _ _ _; first
       | (refine Sto.lit 0 rfl rfl rfl ?_; conv => whnf)
       | (refine Sto.lit 1 rfl rfl rfl ?_; conv => whnf)
       | (refine Sto.lit 6 rfl rfl rfl ?_; conv => whnf))
     | (show Both _ _; first
       | (refine Both.mk ?_ ?_ <;> (conv => whnf)))
    all_goals exact RetN.all ⟨_, rfl, _, _, _, _, rfl, (by (iterate 30 (try first | assumption | refine IsRat.mono ?_ (by assumption))); first | done | assumption), (by (iterate 30 (try first | assumption | refine IsRat.mono ?_ (by assumption))); first | done | assumption), q9, q10⟩
  · have hs : sg kq = false := by rw [n.hk, sg_int, decide_eq_false hk0]
    have q5 := n.q5; have q6 := n.q6; have e1 := n.e1; have e2 := n.e2
    rw [if_neg hk0] at q5 q6 e1 e2
    have kc1 := fun h tb b1 b2 a b w1 w2 hc => rest1_ct h tb b1 b2 a b kq x g y1 w1 w2 hc n.q4 fx n.fg q5 n.q7 e1
    have kc2 := fun h tb b1 b2 a b w1 w2 hc => rest1_ct h tb b1 b2 a b kq x f y2 w1 w2 hc n.q4 fx n.ff q6 n.q8 e2
    rw [hs] at kf km
    replace hs := Hq.mk hs
    clear q5 q6 e1 e2 n
    refine fn0_of_codeI ok D.elem_rest rfl ?_
    conv => whnf
    repeat ((first | refine opsI.step ?_ | refine codeI.step ?_); conv => whnf)
    repeat' first
     | (show SeqN _ _ _ _ _ _ _; first
       | (refine SeqN.go ?_; conv => whnf))
     | (show DrawN _ _ _ _ _ _; first
       | (refine DrawN.run (by decide +kernel) ?_; conv => whnf)
       | (refine DrawN.own [_, _, _, _, _, _] (by exact List.Sublist.refl _) (by decide +kernel) ?_; conv => whnf))
     | (show LdN _ _ _ _ _; first
       | (refine LdN_hasN [.bool false, ua.val, ub.val] rfl (fun i v hv => Has.imm ((by first | exact Heap.le_refl _ | assumption | exact Heap.le_trans (by assumption) (by assumption) | exact Heap.le_trans (by assumption) (Heap.le_trans (by assumption) (by assumption)) | exact Heap.le_trans (by assumption) (Heap.le_trans (by assumption) (Heap.le_trans (by assumption) (by assumption))) : Heap.le hg2 _) _ _ hb1) (by rw [Nat.zero_add]; exact (List.getElem?_toArray ..).trans hv)) ?_; conv => whnf)
       | (refine LdN.ownAt 0 rfl rfl ?_; conv => whnf)
       | (refine LdN.ownAt 1 rfl rfl ?_; conv => whnf)
       | (refine LdN.own 2 rfl rfl ?_; conv => whnf)
       | (refine LdN.own 4 rfl rfl ?_; conv => whnf)
       | (refine LdN.own 6 rfl rfl ?_; conv => whnf))
     | (refine ⟨fun _ => ⟨HasLe.of_le (by first | exact Heap.le_refl _ | assumption | exact Heap.le_trans (by assumption) (by assumption)), by repeat first | exact List.nil_sublist _ | apply List.Sublist.cons_cons | apply List.Sublist.cons⟩, ?_⟩; conv => whnf)
     | ((first | refine opsI.step ?_ | refine codeI.step ?_); conv => whnf)
     | (refine ⟨fun _ => HasLe.of_le (by assumption), ?_⟩; conv => whnf)
     | (refine ⟨fun _ => HasLe.cons _, ?_⟩; conv => whnf)
     | (refine ⟨fun hst => (by cases (show true = false from hst)), ?_⟩; conv => whnf)
     | (intro (_ : Nat); conv => whnf)
     | (show CallN _ _ _ _ _ _; first
       | (refine CallN.fn rfl (kp _ (by assumption)) (fun v h' hl hr => ?_); obtain ⟨s', t', rfl, hs', ht'⟩ := hr; conv => whnf)
       | (refine CallN.fn rfl (r1 _ (by (iterate 30 (try first | assumption | refine Tb.mono ?_ (by assumption))); first | done | assumption) _ _ (by omega) (Nz.mono (by assumption) (by (iterate 30 (try first | assumption | exact Heap.le_refl _)); first | done | assumption))) (fun v h' hl hr => ?_); obtain ⟨fa, fb, rfl, hrf, hff⟩ := hr; have mf := hrf.isnum hff; conv => whnf)
       | (refine CallN.fn rfl (r2 _ (by (iterate 30 (try first | assumption | refine Tb.mono ?_ (by assumption))); first | done | assumption) _ _ (by omega) (Nz.mono (by assumption) (by assumption))) (fun v h' hl hr => ?_); obtain ⟨ga, gb, rfl, hrg, hfg⟩ := hr; have mg := hrg.isnum hfg; conv => whnf)
       | (refine CallN.fn rfl (kd _ _ _ _ _ _ _ (by (iterate 30 (try first | assumption | refine Tb.mono ?_ (by assumption))); first | done | assumption) (fx'.mono (by (iterate 30 (try first | assumption | refine Heap.le_trans ?_ (by assumption))); first | done | assumption)) (mf.mono (by assumption))) (fun v h' hl hr => ?_); obtain ⟨da, db, rfl, hrd, hmd⟩ := hr; conv => whnf)
       | (refine CallN.keepIJ 0 0 rfl rfl rfl (fun hg1 hlg1 hc2 hc1 => ?_); refine CallN.fn rfl (ka _ _ _ _ _ _ _ (by (iterate 30 (try first | assumption | refine Tb.mono ?_ (by assumption))); first | done | assumption) (hmd.mono (by assumption)) (num_half hc1 hc2)) (fun v h' hl hr => ?_); obtain ⟨ea, eb, rfl, hre, hme⟩ := hr; conv => whnf)
       | (refine CallN.fn rfl (kf _ (by (iterate 30 (try first | assumption | refine Tb.mono ?_ (by assumption))); first | done | assumption) _ _ (hre.mono (by (iterate 30 (try first | assumption | exact Heap.le_refl _)); first | done | assumption))) (fun v h' hl hr => ?_); obtain ⟨ua, ub, rfl, hru⟩ := hr; conv => whnf)
       | (refine CallN.keepIJ 3 7 rfl rfl rfl (fun hg2 hlg2 hb1 hb2 => ?_); have bx1 : Boxed hg2 _ kq := ⟨_, _, _, _, (by rw [hs.out]; exact hb1), hru.mono (by assumption)⟩; have bx2 : Boxed hg2 _ x := ⟨_, _, _, _, hb2, hx.mono (by (iterate 30 (try first | assumption | refine Heap.le_trans ?_ (by assumption))); first | done | assumption)⟩; refine CallN.fn rfl (kc1 _ (by (iterate 30 (try first | assumption | refine Tb.mono ?_ (by assumption))); first | done | assumption) _ _ _ _ bx1 bx2 (by (iterate 30 (try first | assumption | refine IsRat.mono ?_ (by assumption))); first | done | assumption)) (fun v h' hl hr => ?_); obtain ⟨va, vb, rfl, hrv⟩ := hr; have mv := hrv.isnum q7; conv => whnf)
       | (refine CallN.fn rfl (kdn _ _ _ (by (iterate 30 (try first | assumption | refine Tb.mono ?_ (by assumption))); first | done | assumption) (mv.mono (by (iterate 30 (try first | assumption | exact Heap.le_refl _)); first | done | assumption))) (fun v h' hl hr => ?_); obtain ⟨wa, wb, rfl, hrw, hmw⟩ := hr; conv => whnf)
       | (refine CallN.fn rfl (kc2 _ (by (iterate 30 (try first | assumption | refine Tb.mono ?_ (by assumption))); first | done | assumption) _ _ _ _ (bx1.mono (by (iterate 30 (try first | assumption | refine Heap.le_trans ?_ (by assumption))); first | done | assumption)) (bx2.mono (by (iterate 30 (try first | assumption | refine Heap.le_trans ?_ (by assumption))); first | done | assumption)) (by (iterate 30 (try first | assumption | refine IsRat.mono ?_ (by assumption))); first | done | assumption)) (fun v h' hl hr => ?_); obtain ⟨xa, xb, rfl, hrx⟩ := hr; have mx := hrx.isnum q8; conv => whnf)
       | (refine CallN.fn rfl (kup _ _ _ (by (iterate 30 (try first | assumption | refine Tb.mono ?_ (by assumption))); first | done | assumption) (mx.mono (by (iterate 30 (try first | assumption | exact Heap.le_refl _)); first | done | assumption))) (fun v h' hl hr => ?_); obtain ⟨ya, yb, rfl, hry, hmy⟩ := hr; conv => whnf)
       | (refine CallN.fn rfl (km _ _ _ (hru.mono (by (iterate 30 (try first | assumption | refine Heap.le_trans ?_ (by assumption))); first | done | assumption))) (fun v h' hl hr => ?_); subst hr; conv => whnf))
     | (show WrapN _ _ _; first
       | (refine WrapN.i64 (by omega) (by omega) ?_; conv => whnf))
     | (show Ld _ _ _ _; first
       | (refine Ld.own 0 rfl rfl ?_; conv => whnf)
       | (refine Ld.own 2 rfl rfl ?_; conv => whnf))
     | (show Sto _ _ _ _; first
       | (refine Sto.lit 0 rfl rfl rfl ?_; conv => whnf)
       | (refine Sto.lit 1 rfl rfl rfl ?_; conv => whnf)
       | (refine Sto.lit 6 rfl rfl rfl ?_; conv => whnf))
     | (show Both _ _; first
       | (refine Both.mk ?_ ?_ <;> (conv => whnf)))
    all_goals exact RetN.all ⟨_, rfl, _, _, _, _, rfl, (by (iterate 30 (try first | assumption | refine IsRat.mono ?_ (by assumption))); first | done | assumption), (by (iterate 30 (try first | assumption | refine IsRat.mono ?_ (by assumption))); first | done | assumption), q9, q10⟩
end Go.Proofs.YtdemgbmndijkkaaGreatDoor