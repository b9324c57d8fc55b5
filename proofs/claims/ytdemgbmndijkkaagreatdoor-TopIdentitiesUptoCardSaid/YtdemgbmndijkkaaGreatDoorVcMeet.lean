/- A rule more for whoever walks code: behind a region all ways meet; the slots that it writes are told once. -/
import Derived.Test.YtdemgbmndijkkaaGreatDoorVcRule
set_option linter.unusedVariables false
set_option linter.unusedSimpArgs false
namespace Go.Vc
open Go
def wsK : List Nat → (List Nat → Prop) → Prop
  | [], k => k []
  | n :: l, k => natK n fun n => wsK l fun l => k (n :: l)
theorem wsK_iff : ∀ {l : List Nat} {k : List Nat → Prop}, wsK l k ↔ k l
  | [], _ => Iff.rfl
  | n :: l, k => by simp only [wsK, natK_iff, wsK_iff (l := l)]
def boolsK : List Bool → (List Bool → Prop) → Prop
  | [], k => k []
  | true :: l, k => boolsK l fun l => k (true :: l)
  | false :: l, k => boolsK l fun l => k (false :: l)
theorem boolsK_iff : ∀ {l : List Bool} {k : List Bool → Prop}, boolsK l k ↔ k l
  | [], _ => Iff.rfl
  | true :: l, k => by simp only [boolsK, boolsK_iff (l := l)]
  | false :: l, k => by simp only [boolsK, boolsK_iff (l := l)]
/-- the slots that are marked take any value -/
def varyK : List Bool → Env → (Env → Prop) → Prop
  | true :: m, _ :: ρ, k => ∀ y : Value, varyK m ρ fun ρ' => k (y :: ρ')
  | false :: m, x :: ρ, k => varyK m ρ fun ρ' => k (x :: ρ')
  | _, ρ, k => k ρ
def marks (ws : List Nat) : List Bool := (List.range (ws.foldl Nat.max 0 + 1)).map ws.contains
theorem le_foldl_max : ∀ (ws : List Nat) (a : Nat), a ≤ ws.foldl Nat.max a ∧ ∀ x ∈ ws, x ≤ ws.foldl Nat.max a
  | [], a => ⟨Nat.le_refl _, by simp⟩
  | w :: ws, a => by
    obtain ⟨h1, h2⟩ := le_foldl_max ws (Nat.max a w)
    have e1 : a ≤ Nat.max a w := Nat.le_max_left _ _
    have e2 : w ≤ Nat.max a w := Nat.le_max_right _ _
    refine ⟨Nat.le_trans e1 h1, fun x hx => ?_⟩
    rcases List.mem_cons.1 hx with rfl | hx
    · exact Nat.le_trans e2 h1
    · exact h2 x hx
theorem marks_get (ws : List Nat) (j : Nat) : (marks ws).getD j false = ws.contains j := by
  unfold marks
  by_cases h : j < ws.foldl Nat.max 0 + 1
  · simp [List.getD_eq_getElem?_getD, h]
  · rw [List.getD_eq_getElem?_getD, List.getElem?_eq_none (by simpa using h)]
    symm
    have : ¬ j ∈ ws := fun hx => h (by have := (le_foldl_max ws 0).2 j hx; omega)
    simpa using this
theorem vary_all {ws : List Nat} : ∀ {ρ : Env} {m : List Bool} {i : Nat} {k : Env → Prop}, (∀ j, m.getD j false = ws.contains (i + j)) → varyK m ρ k → allW ws i ρ k
  | [], m, i, k, _, x => by
    cases m with
    | nil => exact x
    | cons b m => cases b <;> exact x
  | v :: ρ, m, i, k, hm, x => by
    have h0 := hm 0
    rw [Nat.add_zero] at h0
    have hs : ∀ j, (m.drop 1).getD j false = ws.contains (i + 1 + j) := fun j => by
      have := hm (j + 1)
      rw [show i + (j + 1) = i + 1 + j by omega] at this
      rw [← this]
      simp [List.getD_eq_getElem?_getD, Nat.add_comm]
    cases m with
    | nil =>
      have h1 : ws.contains i = false := by rw [← h0]; rfl
      simp only [allW, h1]
      exact vary_all (m := []) hs (by cases ρ <;> exact x)
    | cons b m =>
      cases b with
      | true =>
        have h1 : ws.contains i = true := by rw [← h0]; rfl
        simp only [allW, h1]
        exact fun y => vary_all (m := m) hs (x y)
      | false =>
        have h1 : ws.contains i = false := by rw [← h0]; rfl
        simp only [allW, h1]
        exact vary_all (m := m) hs x
variable {T : Tab} {Q : Post} {ρ : Env} {h : Heap} {L : Own}
theorem codeI.meetK (id t : Nat) (v : Bool) {ops : Array Oper} {dr : Bool} {b : Code}
    (x : wsK (wr (.region id ops dr)) fun ws => codeI T (.region id ops dr) (fun e ρ' h' L' => match e with | .normal => ρ' = over ws 0 ρ ρ' ∧ rd ρ' t = .bool v ∧ h.le h' ∧ L' = L | e => Q e ρ' h' L') ρ h L)
    (y : wsK (wr (.region id ops dr)) fun ws => boolsK (marks ws) fun m => varyK m ρ fun ρ' => ∀ h', rd ρ' t = .bool v → h.le h' → codeI T b Q ρ' h' L) : codeI T (.seq (.region id ops dr) b) Q ρ h L :=
  codeI.meet id t v (wsK_iff.1 x) (vary_all (fun j => by rw [Nat.zero_add]; exact marks_get _ j) (boolsK_iff.1 (wsK_iff.1 y)))
end Go.Vc