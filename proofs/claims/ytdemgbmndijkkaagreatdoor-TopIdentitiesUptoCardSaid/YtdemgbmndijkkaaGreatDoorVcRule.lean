/- Rules for whoever walks a function's code. -/
import Derived.Test.YtdemgbmndijkkaaGreatDoorVcSound
import Derived.Laws.Strings
namespace Go.Vc
open Go
set_option linter.unusedSimpArgs false
set_option linter.unusedVariables false

/-! ### numbers -/
theorem WrapN.i64 {n : Int} {k : Int → Prop} (h1 : -9223372036854775808 ≤ n) (h2 : n ≤ 9223372036854775807) (hk : k n) : WrapN .i64 n k :=
  ⟨by rw [wrap_in n (by simpa [IntKind.min, IntKind.signed, IntKind.bits] using h1) (by simpa [IntKind.max, IntKind.signed, IntKind.bits] using h2)]; exact hk⟩
theorem WrapN.i32 {n : Int} {k : Int → Prop} (h1 : -2147483648 ≤ n) (h2 : n ≤ 2147483647) (hk : k n) : WrapN .i32 n k :=
  ⟨by rw [wrap_in n (by simpa [IntKind.min, IntKind.signed, IntKind.bits] using h1) (by simpa [IntKind.max, IntKind.signed, IntKind.bits] using h2)]; exact hk⟩
theorem WrapN.u64 {n : Int} {k : Int → Prop} (h1 : 0 ≤ n) (h2 : n ≤ 18446744073709551615) (hk : k n) : WrapN .u64 n k :=
  ⟨by rw [wrap_in n (by simpa [IntKind.min, IntKind.signed, IntKind.bits] using h1) (by simpa [IntKind.max, IntKind.signed, IntKind.bits] using h2)]; exact hk⟩
theorem WrapN.u32 {n : Int} {k : Int → Prop} (h1 : 0 ≤ n) (h2 : n ≤ 4294967295) (hk : k n) : WrapN .u32 n k :=
  ⟨by rw [wrap_in n (by simpa [IntKind.min, IntKind.signed, IntKind.bits] using h1) (by simpa [IntKind.max, IntKind.signed, IntKind.bits] using h2)]; exact hk⟩
theorem WrapN.u8 {n : Int} {k : Int → Prop} (h1 : 0 ≤ n) (h2 : n ≤ 255) (hk : k n) : WrapN .u8 n k :=
  ⟨by rw [wrap_in n (by simpa [IntKind.min, IntKind.signed, IntKind.bits] using h1) (by simpa [IntKind.max, IntKind.signed, IntKind.bits] using h2)]; exact hk⟩
theorem WrapN.u64m {n : Int} {k : Int → Prop} (hk : k (n % 18446744073709551616)) : WrapN .u64 n k := ⟨by simpa [IntKind.wrap, IntKind.signed, IntKind.bits] using hk⟩
theorem WrapN.u32m {n : Int} {k : Int → Prop} (hk : k (n % 4294967296)) : WrapN .u32 n k := ⟨by simpa [IntKind.wrap, IntKind.signed, IntKind.bits] using hk⟩
theorem WrapN.u8m {n : Int} {k : Int → Prop} (hk : k (n % 256)) : WrapN .u8 n k := ⟨by simpa [IntKind.wrap, IntKind.signed, IntKind.bits] using hk⟩

theorem tdiv_nn {a b : Int} (ha : 0 ≤ a) : a.tdiv b = a / b := Int.tdiv_eq_ediv_of_nonneg ha
theorem div_le_self {a b : Int} (ha : 0 ≤ a) (hb : 0 < b) : 0 ≤ a / b ∧ a / b ≤ a := ⟨Int.ediv_nonneg ha (by omega), Int.ediv_le_self _ ha⟩
theorem QuoN.nn {kd : IntKind} {a b : Int} {k : Int → Prop} (ha : 0 ≤ a) (hb : 0 < b) (hm : a ≤ kd.max) (hk : k (a / b)) : QuoN kd a b k := by
  refine ⟨by omega, ?_⟩
  have := div_le_self ha hb
  rw [tdiv_nn ha, wrap_in _ (by cases kd <;> simp [IntKind.min, IntKind.signed, IntKind.bits] <;> omega) (by omega)]
  exact hk
theorem QuoN.i64 {a b : Int} {k : Int → Prop} (ha : 0 ≤ a) (hb : 0 < b) (hm : a ≤ 9223372036854775807) (hk : k (a / b)) : QuoN .i64 a b k := QuoN.nn ha hb (by simpa [IntKind.max, IntKind.signed, IntKind.bits] using hm) hk
theorem QuoN.u64 {a b : Int} {k : Int → Prop} (ha : 0 ≤ a) (hb : 0 < b) (hm : a ≤ 18446744073709551615) (hk : k (a / b)) : QuoN .u64 a b k := QuoN.nn ha hb (by simpa [IntKind.max, IntKind.signed, IntKind.bits] using hm) hk
theorem QuoN.u32 {a b : Int} {k : Int → Prop} (ha : 0 ≤ a) (hb : 0 < b) (hm : a ≤ 4294967295) (hk : k (a / b)) : QuoN .u32 a b k := QuoN.nn ha hb (by simpa [IntKind.max, IntKind.signed, IntKind.bits] using hm) hk
theorem RemN.nn {a b : Int} {k : Int → Prop} (ha : 0 ≤ a) (hb : 0 < b) (hk : k (a % b)) : RemN a b k := by
  refine ⟨by omega, ?_⟩
  rw [Int.tmod_eq_emod_of_nonneg ha]; exact hk
theorem ShrN.of {kd : IntKind} {a : Int} {k : Int → Prop} (b : Nat) (hb : b ≤ kd.bits) (ha : 0 ≤ a) (hk : k (a / 2 ^ b)) : ShrN kd a (b : Int) k := by
  refine ⟨by omega, ?_⟩
  rw [Int.toNat_natCast, Nat.min_eq_left hb, Int.fdiv_eq_ediv_of_nonneg _ (by exact Int.pow_nonneg (by omega))]; exact hk
theorem ShlN.mk' {kd : IntKind} {a : Int} {k : Int → Prop} (b : Nat) (hb : b ≤ kd.bits) (hk : k (kd.wrap (a * 2 ^ b))) : ShlN kd a (b : Int) k := by
  refine ⟨by omega, ?_⟩
  rw [Int.toNat_natCast, Nat.min_eq_left hb]; exact hk

theorem ofInt_nat {w : Nat} {a : Int} {n : Nat} (h : a = n) (hn : n < 2 ^ w) : (BitVec.ofInt w a).toNat = n := by
  subst h
  rw [BitVec.ofInt_natCast, BitVec.toNat_ofNat, Nat.mod_eq_of_lt hn]
theorem wrap_nat {kd : IntKind} {n : Nat} (hs : kd.signed = false) (h : n < 2 ^ kd.bits) : kd.wrap (n : Int) = n := by
  cases kd <;> simp [IntKind.signed, IntKind.bits] at hs h <;> simp [IntKind.wrap, IntKind.signed, IntKind.bits] <;> omega
theorem BitN.and {kd : IntKind} {x y : Int} {k : Int → Prop} (a b : Nat) (ha : x = a) (hb : y = b) (ha' : a < 2 ^ kd.bits) (hb' : b < 2 ^ kd.bits) (hs : kd.signed = false) (hk : k ((a &&& b : Nat) : Int)) : BitN .and kd x y k := by
  refine ⟨?_⟩
  have e : Vc.bits .and kd x y = a &&& b := by simp only [Vc.bits, BitVec.toNat_and, ofInt_nat ha ha', ofInt_nat hb hb']
  rw [e, wrap_nat hs (Nat.lt_of_le_of_lt Nat.and_le_left ha')]
  exact hk
theorem BitN.or {kd : IntKind} {x y : Int} {k : Int → Prop} (a b : Nat) (ha : x = a) (hb : y = b) (ha' : a < 2 ^ kd.bits) (hb' : b < 2 ^ kd.bits) (hs : kd.signed = false) (hk : k ((a ||| b : Nat) : Int)) : BitN .or kd x y k := by
  refine ⟨?_⟩
  have e : Vc.bits .or kd x y = a ||| b := by simp only [Vc.bits, BitVec.toNat_or, ofInt_nat ha ha', ofInt_nat hb hb']
  rw [e, wrap_nat hs (Nat.or_lt_two_pow ha' hb')]
  exact hk
/-! ### tests -/
theorem cnd_lt {a b : Int} {p q : Prop} (hp : a < b → p) (hq : b ≤ a → q) : cnd (lt a b) p q := by
  unfold lt; by_cases h : a < b
  · rw [decide_eq_true h]; exact hp h
  · rw [decide_eq_false h]; exact hq (by omega)
theorem cnd_le {a b : Int} {p q : Prop} (hp : a ≤ b → p) (hq : b < a → q) : cnd (le a b) p q := by
  unfold le; by_cases h : a ≤ b
  · rw [decide_eq_true h]; exact hp h
  · rw [decide_eq_false h]; exact hq (by omega)
theorem cnd_eq {a b : Int} {p q : Prop} (hp : a = b → p) (hq : a ≠ b → q) : cnd (eq a b) p q := by
  unfold eq; by_cases h : a = b
  · rw [decide_eq_true h]; exact hp h
  · rw [decide_eq_false h]; exact hq h
theorem cnd_not {b : Bool} {p q : Prop} (h : cnd b q p) : cnd (!b) p q := by cases b <;> exact h
theorem cnd_bool {b : Bool} {p q : Prop} (hp : b = true → p) (hq : b = false → q) : cnd b p q := by cases b; exact hq rfl; exact hp rfl
theorem cnd_beq {a b : Bool} {p q : Prop} (hp : a = b → p) (hq : a ≠ b → q) : cnd (beq a b) p q := by
  unfold beq; by_cases h : a = b
  · subst h; simp; exact hp rfl
  · rw [show (a == b) = false from by simpa using h]; exact hq h
theorem toList_inj {a b : ByteArray} (h : a.toList = b.toList) : a = b := by
  rw [ByteArray.toList_eq, ByteArray.toList_eq] at h
  exact ByteArray.ext (Array.toList_inj.1 h)
theorem cnd_seq {a b : ByteArray} {p q : Prop} (hp : a = b → p) (hq : a ≠ b → q) : cnd (seq a b) p q := by
  unfold seq; by_cases h : a = b
  · subst h; simp; exact hp rfl
  · have : (a.toList == b.toList) = false := by
      cases hx : a.toList == b.toList with
      | false => rfl
      | true => exact (h (toList_inj (eq_of_beq hx))).elim
    rw [this]; exact hq h
theorem eq_true' {a b : Int} (h : a = b) : eq a b = true := by unfold eq; exact decide_eq_true h
theorem eq_false' {a b : Int} (h : a ≠ b) : eq a b = false := by unfold eq; exact decide_eq_false h
theorem lt_true' {a b : Int} (h : a < b) : lt a b = true := by unfold lt; exact decide_eq_true h
theorem lt_false' {a b : Int} (h : b ≤ a) : lt a b = false := by unfold lt; exact decide_eq_false (by omega)
theorem le_true' {a b : Int} (h : a ≤ b) : le a b = true := by unfold le; exact decide_eq_true h
theorem le_false' {a b : Int} (h : b < a) : le a b = false := by unfold le; exact decide_eq_false (by omega)

theorem IdxS.tab {s : ByteArray} {i : Int} {k : Int → Prop} (f : Nat → Nat) (m : Nat) (hs : ∀ j, j < m → s[j]? = some (UInt8.ofNat (f j)) ∧ f j < 256) (j : Nat) (hi : i = j) (hj : j < m) (hk : k (f j)) : IdxS s i k :=
  ⟨j, _, hi, (hs j hj).1, by rw [UInt8.toNat_ofNat', Nat.mod_eq_of_lt (hs j hj).2]; exact hk⟩
/-! ### memory -/
theorem Has.imm {h : Heap} {L : Own} {b off : Nat} {c : Array Value} {T : TypeId} {fz : Nat × Nat} {v : Value} (hb : h b = some (.cells c T fz)) (hc : c[off]? = some v) : Has h L ⟨b, off, none⟩ v :=
  ⟨rfl, c, T, fz, .inl hb, hc⟩
theorem Has.own {h : Heap} {L : Own} {b off : Nat} {c : Array Value} {T : TypeId} {fz : Nat × Nat} {v : Value} (n : Nat) (hb : L[n]? = some (b, .cells c T fz)) (hc : c[off]? = some v) : Has h L ⟨b, off, none⟩ v :=
  ⟨rfl, c, T, fz, .inr (List.mem_of_getElem? hb), hc⟩
theorem Ld.of {h : Heap} {L : Own} {a : Addr} {k : Value → Prop} {v : Value} (hv : Has h L a v) (hk : k v) : Ld h L a k := ⟨v, hv, hk⟩
theorem Ld.own {h : Heap} {L : Own} {b off : Nat} {k : Value → Prop} {c : Array Value} {T : TypeId} {fz : Nat × Nat} {v : Value} (n : Nat) (hb : L[n]? = some (b, .cells c T fz)) (hc : c[off]? = some v) (hk : k v) : Ld h L ⟨b, off, none⟩ k := ⟨v, Has.own n hb hc, hk⟩
theorem add_lit (b o i : Nat) : (⟨b, o, none⟩ : Addr).add i = ⟨b, o + i, none⟩ := by unfold Addr.add; split <;> simp_all
theorem LdN.own {h : Heap} {L : Own} {b m : Nat} {k : Value → Prop} {l : List Value} {T : TypeId} {fz : Nat × Nat} (n : Nat) (hb : L[n]? = some (b, .cells l.toArray T fz)) (hl : l.length = m) (hk : k (.agg l.toArray)) : LdN h L ⟨b, 0, none⟩ m k :=
  ⟨l, hl, fun i hi => by rw [add_lit, Nat.zero_add]; exact Has.own n hb (by simp [hl ▸ hi, List.getD_eq_getElem?_getD, hl, hi]), hk⟩
theorem LdN.imm {h : Heap} {L : Own} {b o m : Nat} {k : Value → Prop} {c : Array Value} {T : TypeId} {fz : Nat × Nat} (vs : List Value) (hb : h b = some (.cells c T fz)) (hl : vs.length = m) (hc : ∀ i, i < m → c[o + i]? = vs[i]?) (hk : k (.agg vs.toArray)) : LdN h L ⟨b, o, none⟩ m k :=
  ⟨vs, hl, fun i hi => by rw [add_lit]; exact Has.imm hb (by rw [hc i hi]; simp [List.getD_eq_getElem?_getD, hl, hi]), hk⟩
theorem Idx.of {a : Option Addr} {i : Int} {n size : Nat} {k : Addr → Prop} {b off : Nat} (j : Nat) (ha : a = some ⟨b, off, none⟩) (hi : i = j) (hj : j < n) (hk : k ⟨b, off + j * size, none⟩) : Idx a i n size k :=
  ⟨_, j, ha, hi, hj, by rw [add_lit]; exact hk⟩
theorem IdxA.at {T : Tab} {e : TypeId} {cs : List Value} {i : Int} {n size : Nat} {k : Value → Prop} (j : Nat) (hi : i = j) (hj : j < n) (hk : partK T e cs (j * size) k) : IdxA T e cs i n size k := ⟨j, hi, hj, hk⟩
theorem Idx.one {a : Option Addr} {i : Int} {n : Nat} {k : Addr → Prop} {b off : Nat} (j : Nat) (ha : a = some ⟨b, off, none⟩) (hi : i = j) (hj : j < n) (hk : k ⟨b, off + j, none⟩) : Idx a i n 1 k :=
  Idx.of j ha hi hj (by rw [Nat.mul_one]; exact hk)

theorem setMany_one (c : Array Value) (o : Nat) (v : Value) : setMany c o [v] = c.setIfInBounds o v := rfl

theorem Sto.lit {L : Own} {b off : Nat} {vs l : List Value} {T : TypeId} {k : Own → Prop} (n : Nat) (hb : L[n]? = some (b, .cells l.toArray T (0, 0))) (hl : Nat.ble (off + vs.length) l.length = true) (ho : vs.all isOne = true)
    (hk : setsK vs l off fun l => setK (b, .cells l.toArray T (0, 0)) L n k) : Sto L ⟨b, off, none⟩ vs k := by
  rw [setsK_iff, setK_iff] at hk
  refine ⟨rfl, n, _, T, hb, ?_, ho, ?_⟩
  · have := Nat.le_of_ble_eq_true hl; simpa using this
  · rw [setMany_eq]; exact hk
theorem Sto.sym {L : Own} {b off : Nat} {v : Value} {l : List Value} {T : TypeId} {k : Own → Prop} (n : Nat) (hb : L[n]? = some (b, .cells l.toArray T (0, 0))) (hl : off < l.length) (ho : isOne v = true)
    (hk : setK (b, .cells (l.set off v).toArray T (0, 0)) L n k) : Sto L ⟨b, off, none⟩ [v] k := by
  rw [setK_iff] at hk
  refine ⟨rfl, n, _, T, hb, by simp; omega, by simp [ho], ?_⟩
  rw [setMany_one]; simpa using hk

/-! ### calls -/
/-- a function that leaves nothing to own -/
def Fn0 (T : Tab) (f : FuncId) (args : List Value) (h : Heap) (R : Value → Heap → Prop) : Prop := Fn T f args h [] fun v h' L' => L' = [] ∧ R v h'

theorem Fn.mono {T : Tab} {f : FuncId} {args : List Value} {h : Heap} {L : Own} {R R' : Value → Heap → Own → Prop} (hf : Fn T f args h L R) (hr : ∀ v h' L', h.le h' → R v h' L' → R' v h' L') : Fn T f args h L R' :=
  fun w s => (hf w s).mono fun e w' he => by
    cases e with
    | returned v => obtain ⟨h', L', i, r⟩ := he; exact ⟨h', L', i, hr _ _ _ i.hle r⟩
    | panicked c => exact he
    | outgrown => exact he
theorem Fn0.mono {T : Tab} {f : FuncId} {args : List Value} {h : Heap} {R R' : Value → Heap → Prop} (hf : Fn0 T f args h R) (hr : ∀ v h', h.le h' → R v h' → R' v h') : Fn0 T f args h R' :=
  Fn.mono hf fun v h' L' hl ⟨e, r⟩ => ⟨e, hr _ _ hl r⟩

theorem CallN.fn {T : Tab} {f : FuncId} {args : List Value} {h : Heap} {L : Own} {k : Value → Heap → Own → Prop} {R : Value → Heap → Prop} (ok : T.fn f = true) (hf : Fn0 T f args h R) (hk : ∀ v h', h.le h' → R v h' → k v h' L) : CallN T f args h L k :=
  .of ok (.done ⟨[], L, _, by simp, hf, fun v h' La' hl ⟨e, r⟩ => ⟨L, by rw [e]; simp, hk v h' hl r⟩⟩)
/-- a call behind which own memory number n is never written again -/
theorem CallN.keep {T : Tab} {f : FuncId} {args : List Value} {h : Heap} {L : Own} {k : Value → Heap → Own → Prop} {b : Nat} {o : Obj} (n : Nat) (hn : L[n]? = some (b, o)) (hf : T.fn f = true) (hk : h.le (h.put b o) → CallN T f args (h.put b o) (L.eraseIdx n) k) : CallN T f args h L k :=
  ⟨hf, .keep n hn fun hle => (hk hle).ex⟩
theorem RetN.done {v : Value} {h : Heap} {L : Own} {R : Value → Heap → Own → Prop} (r : R v h L) : RetN v h L R := ⟨.done r⟩
theorem RetN.keep {v : Value} {h : Heap} {L : Own} {R : Value → Heap → Own → Prop} {b : Nat} {o : Obj} (n : Nat) (hn : L[n]? = some (b, o)) (hk : h.le (h.put b o) → RetN v (h.put b o) (L.eraseIdx n) R) : RetN v h L R :=
  ⟨.keep n hn fun hle => (hk hle).ex⟩
theorem FzN.dropAll {P : Heap → Own → Prop} {h : Heap} : ∀ {L : Own}, P h [] → FzN P h L
  | [], r => .done r
  | _ :: L, r => .drop 0 (FzN.dropAll (L := L) r)
/-- the end of a function that leaves nothing to own -/
theorem RetN.all {v : Value} {h : Heap} {L : Own} {R : Value → Heap → Prop} (r : R v h) : RetN v h L fun v h' L' => L' = [] ∧ R v h' := ⟨FzN.dropAll ⟨rfl, r⟩⟩

/-! ### loops, joints, drawn regions -/
theorem LoopN.of {body : Post → Env → Heap → Own → Prop} {ws : List Nat} {Q : Post} {ρ : Env} {h : Heap} {L : Own} (I : Nat → Env → Heap → Own → Prop) (n0 : Nat) (h0 : I n0 ρ h L)
    (hr : allW ws 0 ρ fun ρ' => ∀ n h' L', I n ρ' h' L' → body (fun e ρ'' h'' L'' => match e with | .normal => ρ'' = over ws 0 ρ ρ'' ∧ ∃ m, m < n ∧ I m ρ'' h'' L'' | e => Q e ρ'' h'' L'') ρ' h' L') : LoopN body ws Q ρ h L :=
  ⟨.done ⟨I, ⟨n0, h0⟩, fun n ρ' h' L' ho hi => allW_over (i := 0) hr ρ' ho n h' L' hi⟩⟩
theorem LoopN.keep {body : Post → Env → Heap → Own → Prop} {ws : List Nat} {Q : Post} {ρ : Env} {h : Heap} {L : Own} {b : Nat} {o : Obj} (n : Nat) (hn : L[n]? = some (b, o)) (hk : h.le (h.put b o) → LoopN body ws Q ρ (h.put b o) (L.eraseIdx n)) : LoopN body ws Q ρ h L :=
  ⟨.keep n hn fun hle => (hk hle).ex⟩
/-- go on by each way -/
theorem SeqN.go {a b : Post → Env → Heap → Own → Prop} {ws : List Nat} {Q : Post} {ρ : Env} {h : Heap} {L : Own} (hh : a (fun e ρ h L => match e with | .normal => b Q ρ h L | e => Q e ρ h L) ρ h L) : SeqN a b ws Q ρ h L :=
  ⟨b Q, hh, fun _ _ _ x => x⟩
/-- the ways meet: what holds there -/
theorem SeqN.cut {a b : Post → Env → Heap → Own → Prop} {ws : List Nat} {Q : Post} {ρ : Env} {h : Heap} {L : Own} (J : Env → Heap → Own → Prop)
    (ha : a (fun e ρ' h' L' => match e with | .normal => ρ' = over ws 0 ρ ρ' ∧ J ρ' h' L' | e => Q e ρ' h' L') ρ h L) (hb : allW ws 0 ρ fun ρ' => ∀ h' L', J ρ' h' L' → b Q ρ' h' L') : SeqN a b ws Q ρ h L :=
  ⟨fun ρ' h' L' => ρ' = over ws 0 ρ ρ' ∧ J ρ' h' L', ha, fun ρ' h' L' ⟨ho, hj⟩ => allW_over (i := 0) hb ρ' ho h' L' hj⟩
theorem natK_iff {n : Nat} {k : Nat → Prop} : natK n k ↔ k n := by cases n <;> exact Iff.rfl
theorem masksK_iff : ∀ {os : List Oper} {k : List Nat → Prop}, masksK os k ↔ k (masks os)
  | [], _ => Iff.rfl
  | o :: os, k => by simp only [masksK, natK_iff, masksK_iff (os := os)]; rfl
theorem DrawN.run {T : Tab} {all : List Oper} {Q : Env → Heap → Own → Prop} {ρ : Env} {h : Heap} {L : Own} (ok : drawOk .run all = true) (hh : masksK all fun ms => drawF .run T all ms Q (all.length + 1) 0 ρ h L) : DrawN T all Q ρ h L :=
  ⟨.run, trivial, ok, masksK_iff.1 hh⟩
/-- each order that looks at memory walked by itself -/
theorem DrawN.each {T : Tab} {all : List Oper} {Q : Env → Heap → Own → Prop} {ρ : Env} {h : Heap} {L : Own} (ok : drawOk .each all = true) (hh : masksK all fun ms => drawF .each T all ms Q (all.length + 1) 0 ρ h L) : DrawN T all Q ρ h L :=
  ⟨.each, trivial, ok, masksK_iff.1 hh⟩
/-- one order, what is read being looked up in the own blocks V alone: none of them is written in the region -/
theorem DrawN.own {T : Tab} {all : List Oper} {Q : Env → Heap → Own → Prop} {ρ : Env} {h : Heap} {L : Own} (V : Own) (hs : V.Sublist L) (ok : drawOk (.own []) all = true) (hh : masksK all fun ms => drawF (.own V) T all ms Q (all.length + 1) 0 ρ h L) : DrawN T all Q ρ h L :=
  ⟨.own V, hs, ok, masksK_iff.1 hh⟩
theorem Fn0.make {T : Tab} {f : FuncId} {args : List Value} {h : Heap} {R : Value → Heap → Prop} (x : Fn T f args h [] fun v h' L' => L' = [] ∧ R v h') : Fn0 T f args h R := x
theorem Fn0.out {T : Tab} {f : FuncId} {args : List Value} {h : Heap} {R : Value → Heap → Prop} (x : Fn0 T f args h R) : Fn T f args h [] fun v h' L' => L' = [] ∧ R v h' := x
/-! ### code, kept folded: one step at a time -/
structure codeI (T : Tab) (c : Code) (Q : Post) (ρ : Env) (h : Heap) (L : Own) : Prop where
  x : codeF T c Q ρ h L
theorem codeI_eq (T : Tab) : codeI T = codeF T := by
  funext c Q ρ h L
  exact propext ⟨fun x => x.x, fun x => ⟨x⟩⟩
variable {T : Tab} {Q : Post} {ρ : Env} {h : Heap} {L : Own}
theorem codeI.skip (x : Q .normal ρ h L) : codeI T .skip Q ρ h L := ⟨x⟩
theorem codeI.label {l : Nat} (x : Q .normal ρ h L) : codeI T (.label l) Q ρ h L := ⟨x⟩
theorem codeI.seqN {a b : Code} (x : SeqN (codeI T a) (codeI T b) (wr a) Q ρ h L) : codeI T (.seq a b) Q ρ h L := by
  rw [codeI_eq] at *; rw [codeF]; exact x
theorem codeI.seq {a b : Code} (hj : joins a = false) (x : codeI T a (fun e ρ h L => match e with | .normal => codeI T b Q ρ h L | e => Q e ρ h L) ρ h L) : codeI T (.seq a b) Q ρ h L :=
  codeI.seqN (SeqN.go x)
theorem codeI.seqJ {a b : Code} (hj : joins a = true) (x : SeqN (codeI T a) (codeI T b) (wr a) Q ρ h L) : codeI T (.seq a b) Q ρ h L := codeI.seqN x
/-- behind region number id all ways meet: slot t then holds b, and own memory is as it was -/
theorem codeI.meet (id t : Nat) (v : Bool) {ops : Array Oper} {dr : Bool} {b : Code}
    (x : codeI T (.region id ops dr) (fun e ρ' h' L' => match e with | .normal => ρ' = over (wr (.region id ops dr)) 0 ρ ρ' ∧ rd ρ' t = .bool v ∧ h.le h' ∧ L' = L | e => Q e ρ' h' L') ρ h L)
    (y : allW (wr (.region id ops dr)) 0 ρ fun ρ' => ∀ h', rd ρ' t = .bool v → h.le h' → codeI T b Q ρ' h' L) : codeI T (.seq (.region id ops dr) b) Q ρ h L :=
  codeI.seqN ⟨fun ρ' h' L' => ρ' = over (wr (.region id ops dr)) 0 ρ ρ' ∧ rd ρ' t = .bool v ∧ h.le h' ∧ L' = L, x, fun ρ' h' L' ⟨ho, hv, hl, e⟩ => by subst e; exact allW_over (i := 0) y ρ' ho h' hv hl⟩
theorem codeI.cond {c : Operand} {a b : Code} (x : ev ρ c fun v => match v with
    | .bool t => cnd t (codeI T a Q ρ h L) (codeI T b Q ρ h L)
    | _ => False) : codeI T (.cond c a b) Q ρ h L := by rw [codeI_eq] at *; rw [codeF]; exact x
theorem codeI.block {id : Nat} {c : Code} (x : codeI T c (fun e ρ h L => match e with | .exit id' => (if id' = id then Q .normal ρ h L else Q (.exit id') ρ h L) | e => Q e ρ h L) ρ h L) : codeI T (.block id c) Q ρ h L := by rw [codeI_eq] at *; rw [codeF]; exact x
theorem codeI.loop {c : Code} (x : LoopN (codeI T c) (wr c) Q ρ h L) : codeI T (.loop c) Q ρ h L := by rw [codeI_eq] at *; rw [codeF]; exact x
theorem codeI.exit {id : Nat} (x : Q (.exit id) ρ h L) : codeI T (.exit id) Q ρ h L := by rw [codeI_eq]; rw [codeF]; exact x
theorem codeI.ret (x : Q .ret ρ h L) : codeI T .ret Q ρ h L := by rw [codeI_eq]; rw [codeF]; exact x
structure opsI (T : Tab) (all : List Oper) (Q : Post) (os : List Oper) (ρ : Env) (h : Heap) (L : Own) : Prop where
  x : opsF T all Q os ρ h L
theorem opsI_eq (T : Tab) (all : List Oper) (Q : Post) : opsI T all Q = opsF T all Q := by
  funext os ρ h L
  exact propext ⟨fun x => x.x, fun x => ⟨x⟩⟩
theorem opsI.nil {all : List Oper} (x : Q .normal ρ h L) : opsI T all Q [] ρ h L := ⟨x⟩
theorem opsI.cons {all rest : List Oper} {o : Oper} (x : guardF all ρ o
      (fun ρ => opF T ρ h L o.op fun v h L => stO v ρ o.dst fun ρ => opsI T all Q rest ρ h L)
      (fun ρ => stO undef ρ o.dst fun ρ => opsI T all Q rest ρ h L)) : opsI T all Q (o :: rest) ρ h L := by
  rw [opsI_eq] at *; rw [opsF]; exact x
theorem codeI.region {id : Nat} {ops : Array Oper} (x : opsI T ops.toList Q ops.toList ρ h L) : codeI T (.region id ops false) Q ρ h L := by rw [codeI_eq]; rw [codeF]; exact x.x
theorem codeI.draw {id : Nat} {ops : Array Oper} (x : DrawN T ops.toList (Q .normal) ρ h L) : codeI T (.region id ops true) Q ρ h L := by rw [codeI_eq]; rw [codeF]; exact x
/-- one step of code, of operations -/
def codeS (T : Tab) (c : Code) (Q : Post) (ρ : Env) (h : Heap) (L : Own) : Prop :=
  match c with
  | .skip => Q .normal ρ h L
  | .seq a b => match joins a with
    | false => codeI T a (fun e ρ h L => match e with | .normal => codeI T b Q ρ h L | e => Q e ρ h L) ρ h L
    | true => SeqN (codeI T a) (codeI T b) (wr a) Q ρ h L
  | .cond c a b => ev ρ c fun v => match v with
    | .bool t => cnd t (codeI T a Q ρ h L) (codeI T b Q ρ h L)
    | _ => False
  | .block id c => codeI T c (fun e ρ h L => match e with | .exit id' => (if id' = id then Q .normal ρ h L else Q (.exit id') ρ h L) | e => Q e ρ h L) ρ h L
  | .loop c => LoopN (codeI T c) (wr c) Q ρ h L
  | .exit id => Q (.exit id) ρ h L
  | .ret => Q .ret ρ h L
  | .region _ ops false => opsI T ops.toList Q ops.toList ρ h L
  | .region _ ops true => DrawN T ops.toList (Q .normal) ρ h L
  | .rangeFunc f ps a b => ExtC T (.rangeFunc f ps a b) Q ρ h L
  | _ => False
theorem codeI.step {c : Code} (x : codeS T c Q ρ h L) : codeI T c Q ρ h L := by
  cases c with
  | skip => exact codeI.skip x
  | seq a b =>
    cases hj : joins a with
    | false => refine codeI.seq hj ?_; simp only [codeS, hj] at x; exact x
    | true => refine codeI.seqJ hj ?_; simp only [codeS, hj] at x; exact x
  | cond c a b => exact codeI.cond x
  | block id c => exact codeI.block x
  | loop c => exact codeI.loop x
  | exit id => exact codeI.exit x
  | ret => exact codeI.ret x
  | region id ops d => cases d; exact codeI.region x; exact codeI.draw x
  | rangeFunc f ps a b => rw [codeI_eq]; rw [codeF]; exact x
  | _ => exact False.elim x
def opsS (T : Tab) (all : List Oper) (Q : Post) (os : List Oper) (ρ : Env) (h : Heap) (L : Own) : Prop :=
  match os with
  | [] => Q .normal ρ h L
  | o :: rest => guardF all ρ o
      (fun ρ => opF T ρ h L o.op fun v h L => stO v ρ o.dst fun ρ => opsI T all Q rest ρ h L)
      (fun ρ => stO undef ρ o.dst fun ρ => opsI T all Q rest ρ h L)
theorem opsI.step {all os : List Oper} (x : opsS T all Q os ρ h L) : opsI T all Q os ρ h L := by
  cases os with
  | nil => exact opsI.nil x
  | cons o rest => exact opsI.cons x
theorem fn_of_codeI (ok : T.Ok) {f : FuncId} {fn : Func} {c : Code} {args : List Value} {R : Value → Heap → Own → Prop} (hf : T.prog.funcs[f]? = some fn) (hb : fn.body = some c)
    (hc : codeI T c (retQ T fn.results.toList R) (args ++ List.replicate (fn.ntmps - args.length) undef) h L) (hn : ∀ c h L, ¬ T.pan c h L := by exact fun _ _ _ x => x) : Fn T f args h L R := fn_of_code ok hn hf hb hc.x
theorem fn0_of_codeI (ok : T.Ok) {f : FuncId} {fn : Func} {c : Code} {args : List Value} {R : Value → Heap → Prop} (hf : T.prog.funcs[f]? = some fn) (hb : fn.body = some c)
    (hc : codeI T c (retQ T fn.results.toList fun v h' L' => L' = [] ∧ R v h') (args ++ List.replicate (fn.ntmps - args.length) undef) h []) (hn : ∀ c h L, ¬ T.pan c h L := by exact fun _ _ _ x => x) : Fn0 T f args h R := fn_of_code ok hn hf hb hc.x
attribute [irreducible] Fn0
/-! ### panics -/
def Tab.withPan (T : Tab) (S : List PanicEntry → Heap → Own → Prop) : Tab := { T with pan := S }
theorem Tab.Ok.withPan {T : Tab} (ok : T.Ok) (S : List PanicEntry → Heap → Own → Prop) : (T.withPan S).Ok := ⟨ok.und, ok.inf, ok.fn, ok.mixed⟩
theorem Fn0.withPan {T : Tab} {S : List PanicEntry → Heap → Own → Prop} {f : FuncId} {args : List Value} {h : Heap} {R : Value → Heap → Prop} (x : Fn0 T f args h R) : Fn0 (T.withPan S) f args h R := Fn0.make (fun w s => Fn0.out (T := T) x w s)
theorem fnP_of_codeI {T : Tab} (ok : T.Ok) (S : List PanicEntry → Heap → Own → Prop) {f : FuncId} {fn : Func} {c : Code} {args : List Value} {h : Heap} {L : Own} {R : Value → Heap → Own → Prop} (hf : T.prog.funcs[f]? = some fn) (hb : fn.body = some c)
    (hc : codeI (T.withPan S) c (retQ (T.withPan S) fn.results.toList R) (args ++ List.replicate (fn.ntmps - args.length) undef) h L) : FnP T f args h L R S := fnP_of_code (ok.withPan S) hf hb hc.x
end Go.Vc