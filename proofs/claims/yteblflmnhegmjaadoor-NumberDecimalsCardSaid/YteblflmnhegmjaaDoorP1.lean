/- Texts that are read: bytes of a text, parts of it, its leading digits, the number of decimal digits. -/
import Derived.Test.YteblflmnhegmjaaDoorT3
set_option linter.unusedVariables false
set_option linter.unusedSimpArgs false
namespace Go.Vc
open Go
/-- the bytes of a text -/
def rl (s : ByteArray) : List Nat := s.data.toList.map UInt8.toNat
theorem txt_rl (s : ByteArray) : txt (rl s) = s := by
  unfold txt rl
  apply ByteArray.ext
  simp [List.map_map, Function.comp_def]
theorem rl_lt (s : ByteArray) : ∀ y ∈ rl s, y < 256 := fun y hy => by
  obtain ⟨c, -, rfl⟩ := List.mem_map.1 hy
  exact c.toNat_lt
theorem txt_get {l : List Nat} {j : Nat} (hj : j < l.length) : (txt l)[j]? = some (UInt8.ofNat (l.getD j 0)) := by
  have h : j < (txt l).size := by rw [txt_size]; exact hj
  rw [getElem?_pos (txt l) j h, ByteArray.getElem_eq_getElem_data]
  simp [txt, List.getD_eq_getElem?_getD, hj]
theorem txt_sub (l : List Nat) (a b : Nat) : (txt l).extract a b = txt ((l.take b).drop a) := by
  unfold txt
  apply ByteArray.ext
  by_cases h : a ≤ b
  · simp [ByteArray.data_extract, List.map_take, List.map_drop, List.take_drop, Nat.add_sub_cancel' h]
  · have h1 : b - a = 0 := by omega
    simp [ByteArray.data_extract, List.map_take, List.map_drop, h1]
    omega
theorem txt_inj {a b : List Nat} (ha : ∀ y ∈ a, y < 256) (hb : ∀ y ∈ b, y < 256) (h : txt a = txt b) : a = b := by
  have key : ∀ l : List Nat, (∀ y ∈ l, y < 256) → rl (txt l) = l := fun l hl => by
    unfold rl txt
    simp only [List.map_map]
    apply List.ext_getElem (by simp)
    intro i h1 h2
    simp
    exact hl _ (List.getElem_mem h2)
  rw [← key a ha, ← key b hb, h]
theorem IdxS.txt {s : ByteArray} {i : Int} {k : Int → Prop} (l : List Nat) (hs : s = Vc.txt l) (hb : ∀ y ∈ l, y < 256) (j : Nat) (hi : i = j) (hj : j < l.length) (hk : k ((l.getD j 0 : Nat) : Int)) : IdxS s i k := by
  refine ⟨j, _, hi, by rw [hs]; exact txt_get hj, ?_⟩
  have : l.getD j 0 < 256 := hb _ (by simp [List.getD_eq_getElem?_getD, hj])
  rw [UInt8.toNat_ofNat', Nat.mod_eq_of_lt this]; exact hk
theorem Cut.txt {x y z : Int} {k : Nat → Nat → Nat → Prop} (l : List Nat) (a b : Nat) (hx : x = a) (hy : y = b) (hz : z = (Vc.txt l).size) (h1 : a ≤ b) (h2 : b ≤ l.length) (hk : k a b (Vc.txt l).size) : Cut x y z k :=
  ⟨a, b, (Vc.txt l).size, hx, hy, hz, h1, by rw [txt_size]; exact h2, hk⟩
/-- is a text empty? -/
theorem cnd_nil {s e : ByteArray} {p q : Prop} (l : List Nat) (hs : s = txt l) (he : e = txt []) (hp : l = [] → p) (hq : l ≠ [] → q) : cnd (seq s e) p q := by
  refine cnd_seq (fun h => hp ?_) (fun h => hq fun hl => h ?_)
  · have := congrArg ByteArray.size (hs.symm.trans (h.trans he))
    rw [txt_size, txt_size] at this
    exact List.eq_nil_of_length_eq_zero this
  · rw [hs, he, hl]
end Go.Vc
namespace Go.Dig
/-- a decimal digit -/
def dgt (c : Nat) : Bool := Nat.ble 48 c && Nat.ble c 57
theorem dgt_iff {c : Nat} : dgt c = true ↔ 48 ≤ c ∧ c ≤ 57 := by unfold dgt; simp [Nat.ble_eq]
theorem while_at (l : List Nat) : ∀ k, k ≤ l.length → (∀ i, i < k → dgt (l.getD i 0) = true) → (k = l.length ∨ ¬ dgt (l.getD k 0) = true) → l.takeWhile dgt = l.take k ∧ l.dropWhile dgt = l.drop k := by
  induction l with
  | nil => intro k hk _ _; simp at hk; subst hk; simp
  | cons c l ih =>
    intro k hk h1 h2
    cases k with
    | zero =>
      rcases h2 with h2 | h2
      · simp at h2
      · simp at h2; simp [h2]
    | succ k =>
      have hc := h1 0 (by omega)
      simp at hc
      have := ih k (by simpa using hk) (fun i hi => by have := h1 (i + 1) (by omega); simpa using this) (by
        rcases h2 with h2 | h2
        · left; simpa using h2
        · right; simpa using h2)
      simp [List.takeWhile_cons, List.dropWhile_cons, hc, this]
/-- the number of decimal digits -/
def natL (l : List Nat) : Nat := l.foldl (fun a c => 10 * a + (c - 48)) 0
theorem natL_nil : natL [] = 0 := rfl
theorem natL_snoc (l : List Nat) (c : Nat) : natL (l ++ [c]) = 10 * natL l + (c - 48) := by unfold natL; rw [List.foldl_append]; rfl
theorem fold10 (m : List Nat) : ∀ a, m.foldl (fun a c => 10 * a + (c - 48)) a = a * 10 ^ m.length + m.foldl (fun a c => 10 * a + (c - 48)) 0 := by
  induction m with
  | nil => intro a; simp
  | cons c m ih =>
    intro a
    rw [List.foldl_cons, List.foldl_cons, ih, ih (10 * 0 + (c - 48)), List.length_cons, Nat.pow_succ, Nat.mul_zero, Nat.zero_add, Nat.add_mul, Nat.add_assoc]
    congr 1
    rw [Nat.mul_comm 10 a, Nat.mul_assoc, Nat.mul_comm 10]
theorem natL_append (l m : List Nat) : natL (l ++ m) = natL l * 10 ^ m.length + natL m := by
  unfold natL; rw [List.foldl_append, fold10]
theorem natL_lt {l : List Nat} (h : ∀ c ∈ l, dgt c = true) : natL l < 10 ^ l.length := by
  induction l with
  | nil => simp [natL]
  | cons c l ih =>
    have h1 := dgt_iff.1 (h c List.mem_cons_self)
    have h2 := ih fun d hd => h d (List.mem_cons_of_mem _ hd)
    have h3 : natL (c :: l) = (c - 48) * 10 ^ l.length + natL l := by
      have := natL_append [c] l
      simpa [natL] using this
    have h4 : (c - 48) * 10 ^ l.length ≤ 9 * 10 ^ l.length := Nat.mul_le_mul_right _ (by omega)
    rw [h3, List.length_cons, Nat.pow_succ]
    omega
theorem natL_ln {l : List Nat} (h : ∀ c ∈ l, dgt c = true) : ln 4294967296 (natL l) ≤ l.length := by
  rw [ln_le_iff (by decide)]
  exact Nat.lt_of_lt_of_le (natL_lt h) (Nat.pow_le_pow_left (by decide) _)
theorem take_step {l : List Nat} {k i : Nat} (hk : k ≤ i) (hi : i < l.length) : (l.take (i + 1)).drop k = (l.take i).drop k ++ [l.getD i 0] := by
  rw [List.take_add_one, List.getElem?_eq_getElem hi, List.drop_append_of_le_length (by simp; omega)]
  simp [List.getD_eq_getElem?_getD, hi]
theorem take_two {l : List Nat} {k e : Nat} (hk : k ≤ e) : l.take e = l.take k ++ (l.take e).drop k := by
  conv => lhs; rw [← List.take_append_drop k (l.take e)]
  rw [List.take_take, Nat.min_eq_left hk]
theorem run_all {l : List Nat} : ∀ c ∈ l.takeWhile dgt, dgt c = true := fun c hc => by
  induction l with
  | nil => simp at hc
  | cons d l ih =>
    rw [List.takeWhile_cons] at hc
    split at hc
    · rcases List.mem_cons.1 hc with rfl | h
      · assumption
      · exact ih h
    · simp at hc
end Go.Dig
namespace Go.Proofs.YteblflmnhegmjaaDoor
open Go Go.Vc Go.Dig
set_option maxRecDepth 20000 in
set_option maxHeartbeats 1000000 in
theorem run_ct (h : Heap) (l : List Nat) (hb : ∀ y ∈ l, y < 256) (hl : l.length ≤ 1000000000) : Fn0 T F.number_run [.string (txt l)] h fun v h' => h' = h ∧ v = .tuple #[.string (txt (l.takeWhile dgt)), .string (txt (l.dropWhile dgt))] := by
  have hz := txt_size l
  refine fn0_of_codeI ok D.number_run rfl ?_
  conv => whnf
  repeat ((first | refine opsI.step ?_ | refine codeI.step ?_); conv => whnf)
  skip
  refine LoopN.of (fun r ρ h' L => ∃ k : Nat, r = l.length - k ∧ h' = h ∧ rd ρ 4 = .int .i64 k ∧ k ≤ l.length ∧ Hq (∀ i, i < k → dgt (l.getD i 0) = true)) l.length ⟨0, rfl, rfl, vi (by omega), by omega, ⟨fun i hi => by omega⟩⟩ ?_
  conv => whnf
  repeat intro _
  rename_i r h1 L1 hI
  obtain ⟨k, rfl, rfl, e4, hk, hd⟩ := hI
  conv at e4 => lhs; whnf
  subst e4
  have hs := fun (x : k < l.length) (y : 48 ≤ l.getD k 0) (z : l.getD k 0 ≤ 57) i (hi : i < k + 1) => (by
    by_cases e : i = k
    · subst e; exact dgt_iff.2 ⟨y, z⟩
    · exact hd.out i (by omega) : dgt (l.getD i 0) = true)
  have hw := while_at l k hk hd.out
  have he : ∀ {c : Nat}, ¬ (48 ≤ c ∧ c ≤ 57) → ¬ dgt c = true := fun x y => x (dgt_iff.1 y)
  replace hs := Hq.mk hs
  replace hw := Hq.mk hw
  conv => whnf
  repeat ((first | refine opsI.step ?_ | refine codeI.step ?_); conv => whnf)
  repeat' first
   | (show IdxS _ _ _; first
     | (refine IdxS.txt l rfl hb k (by omega) (by omega) ?_; conv => whnf))
   | (show Cut _ _ _ _; first
     | (refine Cut.txt l 0 k (by omega) (by omega) rfl (by omega) (by omega) ?_; rw [txt_sub]; conv => whnf)
     | (refine Cut.txt l k l.length (by omega) (by omega) rfl (by omega) (by omega) ?_; rw [txt_sub]; conv => whnf))
   | ((first | refine opsI.step ?_ | refine codeI.step ?_); conv => whnf)
   | (show WrapN _ _ _; first
     | (refine WrapN.i64 (by omega) (by omega) ?_; conv => whnf))
   | (show cnd _ _ _; first
     | (refine cnd_lt (fun _ => ?_) (fun _ => ?_) <;> first | (exfalso; omega) | (conv => whnf))
     | (refine cnd_le (fun _ => ?_) (fun _ => ?_) <;> first | (exfalso; omega) | (conv => whnf)))
   | (show DrawN _ _ _ _ _ _; first
     | (refine DrawN.run (by decide +kernel) ?_; conv => whnf))
  all_goals first
    | exact ⟨rfl, l.length - (k + 1), by omega, k + 1, rfl, rfl, vi (by omega), by omega, ⟨hs.out (by omega) (by omega) (by omega)⟩⟩
    | skip
  all_goals
    obtain ⟨u1, u2⟩ := hw.out (by first | (left; omega) | (right; exact he (by omega)))
    refine RetN.all ⟨rfl, ?_⟩
    rw [u1, u2, List.drop_zero, List.take_length]
end Go.Proofs.YteblflmnhegmjaaDoor
