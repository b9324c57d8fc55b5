/- One kid turned, on both sides; nodes made. -/
import Derived.Test.YtchcjbbnkcodjaaGreatDoorE46
set_option linter.unusedVariables false
set_option linter.unusedSimpArgs false
namespace Go.Vc
open Go Go.Dig
theorem GrowS.up' {e : TypeId} {size : Nat} {v : Value} {n : Nat} {xs : List Value} {F : Vc.Own} (A : Vc.Own) (g : GrowS e size v n xs F) : GrowS e size v n xs (A ++ F) := by
  have := g.up A []
  rwa [List.append_nil] at this
theorem Ld.tl3 {h : Heap} {A F G tl : Vc.Own} {b off : Nat} {k : Value → Prop} {l : List Value} {T : TypeId} {v : Value} (hv : l[off]? = some v) (hk : k v) : Ld h (A ++ (F ++ (G ++ (b, .cells l.toArray T (0, 0)) :: tl))) ⟨b, off, none⟩ k :=
  ⟨v, ⟨rfl, l.toArray, T, (0, 0), .inr (by simp), by simpa using hv⟩, hk⟩
theorem LdN.tl3 {h : Heap} {A F G tl : Vc.Own} {b o m : Nat} {k : Value → Prop} {l : List Value} {T : TypeId} (hl : Nat.ble (o + m) l.length = true) (hk : k (.agg ((l.drop o).take m).toArray)) : LdN h (A ++ (F ++ (G ++ (b, .cells l.toArray T (0, 0)) :: tl))) ⟨b, o, none⟩ m k :=
  have hle := Nat.le_of_ble_eq_true hl
  ⟨(l.drop o).take m, by rw [List.length_take, List.length_drop]; omega, fun i hi => by
    rw [add_lit]
    refine ⟨rfl, l.toArray, T, (0, 0), .inr (by simp), ?_⟩
    rw [List.getElem?_toArray, List.getD_eq_getElem?_getD, List.getElem?_take, if_pos hi, List.getElem?_drop, List.getElem?_eq_getElem (show o + i < l.length by omega)]
    rfl, hk⟩
end Go.Vc
namespace Go.Proofs.YtchcjbbnkcodjaaGreatDoor
open Go Go.Vc Go.Dig
theorem set_take {α : Type} {l : List α} {i : Nat} {t : α} (h : i < l.length) : l.take i ++ [t] ++ l.drop (i + 1) = l.set i t := by
  rw [List.set_eq_take_append_cons_drop, if_pos h, List.append_assoc]; rfl
theorem KC.sing {h : Heap} {vs : List Value} {t : Tr} (hv : vs.length = 7) (w : IsE h vs t) : KC h vs [t] := ⟨vs, [], by simp, hv, w, rfl⟩
set_option maxRecDepth 20000 in
set_option maxHeartbeats 1000000 in
theorem with_ct (op arg : Int) (neg : Bool) (l m name : List Nat) (ks : List Tr) (i : Nat) (hi : i < ks.length) (hks : ks.length ≤ 3) (t : Tr) (h : Heap) (vs us : List Value) (w : IsE h vs (.mk op arg neg l m name ks)) (w' : IsE h us t) :
    Fn0 T F.expr_with [.agg vs.toArray, .int .i64 i, .agg us.toArray] h fun v h' => VE h' v (.mk op arg neg l m name (ks.set i t)) := by
  obtain ⟨a, b, s, rfl, ho, ha, hv, hb, hk⟩ := w.isK
  obtain ⟨⟨op1, arg1, neg1, l1, m1, name1, ks1⟩, hu⟩ : ∃ x, x = t := ⟨_, rfl⟩
  obtain ⟨a1, b1, s1, hus, -⟩ := (hu.symm ▸ w' : IsE h us (.mk op1 arg1 neg1 l1 m1 name1 ks1)).isK
  subst hus
  have hkl := hk.len
  refine fn0_of_codeI ok D.expr_with rfl ?_
  conv => whnf
  repeat ((first | refine opsI.step ?_ | refine codeI.step ?_); conv => whnf)
  repeat' first | (show App _ _ _ _ _ _ _ _ _; first | (refine App.kids (A := []) (F := [_]) (z := [.int .i64 0, .int .i64 0, .bool false, .slice none 0 0, .slice none 0 0, .string (txt []), .slice none 0 0]) rfl rfl GrowS.mk0 hk (Heap.le_refl _) (by omega) (fun v' F' ys g0 k0 => ?_); obtain ⟨bb, cap, rfl⟩ := g0.pos (by omega); conv => whnf)) | (show Idx _ _ _ _ _; first | (refine Idx.of i rfl rfl (by omega) ?_; conv => whnf)) | (show LdN _ _ _ _ _; first | (refine LdN.tl (A := F') (F := [_]) rfl ?_; conv => whnf) | (refine LdN.tl (A := F2) (F := [_, _]) rfl ?_; conv => whnf) | (refine LdN.tl (A := []) (F := F2) rfl ?_; conv => whnf)) | (show Sto _ _ _ _; first | (refine Sto.grow (A := []) g0 rfl rfl rfl i (by omega) (fun F2 g2 => ?_); conv => whnf) | (refine Sto.tl (A := F2) (X := [_, _]) rfl rfl ?_; conv => whnf) | (refine Sto.tl (A := []) (X := F2) rfl rfl ?_; conv => whnf)) | (show Ld _ _ _ _; first | (refine Ld.tl (A := []) (F := [_, _, _]) rfl ?_; conv => whnf)) | ((first | refine opsI.step ?_ | refine codeI.step ?_); conv => whnf) | (intro (_ : Nat); conv => whnf)
  have k2 := KC.turn w' rfl (i := i) k0 hi
  refine RetN.rowA (X := F2) g2 k2 (by rw [List.length_set]; omega) fun h'' s' hl hs hk' => ?_
  rw [hs]
  exact ⟨op, arg, neg, a, b, name, s', rfl, IsE.mkK ho ha (hv.mono hl) hb hk'⟩
set_option maxRecDepth 20000 in
set_option maxHeartbeats 1000000 in
theorem replacedK_ct (op arg : Int) (neg : Bool) (l m name : List Nat) (ks : List Tr) (i : Nat) (hi : i < ks.length) (hks : ks.length ≤ 3) (t : Tr) (h : Heap) (vs us : List Value) (w : IsE h vs (.mk op arg neg l m name ks)) (w' : IsE h us t) :
    Fn0 T F.ref04_replaced [.agg vs.toArray, .int .i64 i, .agg us.toArray] h fun v h' => VE h' v (.mk op arg neg l m name (ks.set i t)) := by
  obtain ⟨a, b, s, rfl, ho, ha, hv, hb, hk⟩ := w.isK
  obtain ⟨⟨op1, arg1, neg1, l1, m1, name1, ks1⟩, hu⟩ : ∃ x, x = t := ⟨_, rfl⟩
  obtain ⟨a1, b1, s1, hus, -⟩ := (hu.symm ▸ w' : IsE h us (.mk op1 arg1 neg1 l1 m1 name1 ks1)).isK
  subst hus
  have hkl := hk.len
  have hkc := hk.cap
  have hkf := hk.front (i := i) (by omega)
  have hlf : (ks.take i).length = i := by rw [List.length_take]; omega
  have hld : (ks.drop (i + 1)).length = ks.length - (i + 1) := List.length_drop
  refine fn0_of_codeI ok D.ref04_replaced rfl ?_
  conv => whnf
  repeat ((first | refine opsI.step ?_ | refine codeI.step ?_); conv => whnf)
  repeat' first | (show CutA _ _ _ _ _ _; first | (refine CutA.front i rfl (by omega) ?_; conv => whnf) | (refine CutA.kids hk (i + 1) (by omega) rfl (by omega) (fun sd hkd => ?_); conv => whnf)) | (show App _ _ _ _ _ _ _ _ _; first | (refine App.kids (A := []) (F := []) (z := [.int .i64 0, .int .i64 0, .bool false, .slice none 0 0, .slice none 0 0, .string (txt []), .slice none 0 0]) rfl rfl (GrowS.nil _ _ _) hkf (Heap.le_refl _) (by omega) (fun v' F1 ys g1 k1 => ?_); conv => whnf) | (refine App.growK (A := [_]) (F := F1) (size := 7) (bytes := 112) (z := [.int .i64 0, .int .i64 0, .bool false, .slice none 0 0, .slice none 0 0, .string (txt []), .slice none 0 0]) rfl rfl g1 ⟨_, 0, none⟩ 1 1 [_, _, _, _, _, _, _] rfl (Has.front _) rfl (by decide) (by omega) (by omega) (by decide) (fun v' F2 g2 => ?_); conv => whnf) | (refine App.kids (A := [_]) (F := F2) (z := [.int .i64 0, .int .i64 0, .bool false, .slice none 0 0, .slice none 0 0, .string (txt []), .slice none 0 0]) rfl rfl g2 hkd (Heap.le_refl _) (by rw [hlf, hld]; omega) (fun v' F3 zs g3 k3 => ?_); obtain ⟨sv3, rfl⟩ := g3.sl; conv => whnf)) | (show LdN _ _ _ _ _; first | (refine LdN.tl (A := F1) (F := [_]) rfl ?_; conv => whnf) | (refine LdN.tl3 (A := [_]) (F := F3) (G := [_, _]) rfl ?_; conv => whnf) | (refine LdN.tl (A := [_]) (F := F3) rfl ?_; conv => whnf)) | (show Ld _ _ _ _; first | (refine Ld.tl3 (A := [_]) (F := F2) (G := [_, _]) rfl ?_; conv => whnf) | (refine Ld.tl3 (A := [_]) (F := F3) (G := [_, _]) rfl ?_; conv => whnf) | (refine Ld.own 2 rfl rfl ?_; conv => whnf)) | (show Sto _ _ _ _; first | (refine Sto.tl (A := [_]) (X := F3) rfl rfl ?_; conv => whnf)) | ((first | refine opsI.step ?_ | refine codeI.step ?_); conv => whnf) | (intro (_ : Nat); conv => whnf) | (refine WrapN.i64 (by omega) (by omega) ?_; conv => whnf)
  have kk := KC.app (KC.app k1 (KC.sing rfl w')) k3
  rw [set_take hi] at kk
  refine RetN.rowA (X := [_] ++ F3) (g3.up' _) kk (by rw [List.length_set, hlf, hld]; omega) fun h'' s' hl hs hk' => ?_
  rw [hs]
  exact ⟨op, arg, neg, a, b, name, s', rfl, IsE.mkK ho ha (hv.mono hl) hb hk'⟩
set_option maxRecDepth 20000 in
theorem enode_ct (op arg : Int) (ho : -9223372036854775808 ≤ op ∧ op ≤ 9223372036854775807) (ha : -9223372036854775808 ≤ arg ∧ arg ≤ 9223372036854775807) (ks : List Tr) (s : Sl) (h : Heap) (hk : IsK h s ks) : Fn0 T F.expr_node [.int .i64 op, .int .i64 arg, s.val] h fun v h' => VE h' v (nodeT op arg ks) := by
  refine fn0_of_codeI ok D.expr_node rfl ?_
  conv => whnf
  repeat ((first | refine opsI.step ?_ | refine codeI.step ?_); conv => whnf)
  repeat' first | ((first | refine opsI.step ?_ | refine codeI.step ?_); conv => whnf) | (intro (_ : Nat); conv => whnf) | (refine LdN.own 0 rfl rfl ?_; conv => whnf) | (refine Sto.lit 0 rfl rfl rfl ?_; conv => whnf)
  exact RetN.all (VE.node ho ha hk)
set_option maxRecDepth 20000 in
theorem rone_ct (op arg : Int) (ho : -9223372036854775808 ≤ op ∧ op ≤ 9223372036854775807) (ha : -9223372036854775808 ≤ arg ∧ arg ≤ 9223372036854775807) (t : Tr) (h : Heap) (vs : List Value) (w : IsE h vs t) : Fn0 T F.ref04_one [.int .i64 op, .int .i64 arg, .agg vs.toArray] h fun v h' => VE h' v (nodeT op arg [t]) := by
  obtain ⟨⟨op0, arg0, neg, l, m, name, ks⟩, ht⟩ : ∃ x, x = t := ⟨_, rfl⟩
  obtain ⟨a, b, s, hvs, -⟩ := (ht.symm ▸ w : IsE h vs (.mk op0 arg0 neg l m name ks)).isK
  subst hvs
  refine fn0_of_codeI ok D.ref04_one rfl ?_
  conv => whnf
  repeat ((first | refine opsI.step ?_ | refine codeI.step ?_); conv => whnf)
  repeat' first | ((first | refine opsI.step ?_ | refine codeI.step ?_); conv => whnf) | (intro (_ : Nat); conv => whnf) | (refine LdN.own 1 rfl rfl ?_; conv => whnf) | (refine Sto.lit 1 rfl rfl rfl ?_; conv => whnf)
  exact RetN.keep 0 rfl fun hle => RetN.all (VE.node ho ha (IsK.one w rfl hle))
set_option maxRecDepth 20000 in
theorem rtwo_ct (op : Int) (ho : -9223372036854775808 ≤ op ∧ op ≤ 9223372036854775807) (t u : Tr) (h : Heap) (vs us : List Value) (w : IsE h vs t) (w' : IsE h us u) : Fn0 T F.ref04_two [.int .i64 op, .agg vs.toArray, .agg us.toArray] h fun v h' => VE h' v (nodeT op 0 [t, u]) := by
  obtain ⟨⟨op0, arg, neg, l, m, name, ks⟩, ht⟩ : ∃ x, x = t := ⟨_, rfl⟩
  obtain ⟨a, b, s, hvs, -⟩ := (ht.symm ▸ w : IsE h vs (.mk op0 arg neg l m name ks)).isK
  obtain ⟨⟨op1, arg1, neg1, l1, m1, name1, ks1⟩, hu⟩ : ∃ x, x = u := ⟨_, rfl⟩
  obtain ⟨a1, b1, s1, hus, -⟩ := (hu.symm ▸ w' : IsE h us (.mk op1 arg1 neg1 l1 m1 name1 ks1)).isK
  subst hvs hus
  refine fn0_of_codeI ok D.ref04_two rfl ?_
  conv => whnf
  repeat ((first | refine opsI.step ?_ | refine codeI.step ?_); conv => whnf)
  repeat' first | ((first | refine opsI.step ?_ | refine codeI.step ?_); conv => whnf) | (intro (_ : Nat); conv => whnf) | (show LdN _ _ _ _ _; first | (refine LdN.own 1 rfl rfl ?_; conv => whnf) | (refine LdN.own 2 rfl rfl ?_; conv => whnf)) | (refine Sto.lit 1 rfl rfl rfl ?_; conv => whnf)
  exact RetN.keep 0 rfl fun hle => RetN.all (VE.node ho (by decide) (IsK.two w w' rfl rfl hle))
end Go.Proofs.YtchcjbbnkcodjaaGreatDoor