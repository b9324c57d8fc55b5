/- Swap: plain. -/
import Derived.Test.YtchcjbbnkcodjaaGreatDoorE33
set_option linter.unusedVariables false
set_option linter.unusedSimpArgs false
namespace Go.Proofs.YtchcjbbnkcodjaaGreatDoor
open Go Go.Vc Go.Dig
def sw (a b n : List Nat) : List Nat := if n = a then b else if n = b then a else n
def byP (a b : List Nat) : Tr → Option Tr
  | .mk op arg neg l m name ks => if op = 2 then some (.mk op arg neg l m (sw a b name) ks) else none
def getB : List (List Nat × Tr) → List Nat → Tr → Tr
  | [], _, t => t
  | (n, u) :: bs, name, t => if n = name then u else getB bs name t
def byR (bs : List (List Nat × Tr)) : Tr → Option Tr
  | .mk op arg neg l m name ks => if op = 2 then some (getB bs name (.mk op arg neg l m name ks)) else none
mutual
def swK (a b : List Nat) : Kt → Kt
  | .mk op arg q name ks => if op = 2 then .mk op arg q (sw a b name) ks else .mk op arg q name (swKs a b ks)
def swKs (a b : List Nat) : List Kt → List Kt
  | [] => []
  | t :: ts => swK a b t :: swKs a b ts
end
def swB (a b : List Nat) : List (List Nat × Tr) := [(a, varT b), (b, varT a)]
def swapX (a b : List Nat) (t : Tr) : Tr × Nat := if ¬ ValT t then (zeroT, 40) else if ¬ (IsNm a ∧ IsNm b) then (zeroT, 41) else (cloneT (rplT (byP a b) t), 0)
def swapY (a b : List Nat) (t : Tr) : Tr × Nat := if ¬ ValT t then (zeroT, 40) else if ¬ (IsNm a ∧ IsNm b) then (zeroT, 41) else (rplT (byR (swB a b)) t, 0)
def Agree (x y : Tr × Nat) : Prop := x.2 = y.2 ∧ (y.2 ≠ 0 → x.1 = zeroT) ∧ (y.2 = 0 → okT 1 x.1 ∧ okT 1 y.1 ∧ sameB x.1 y.1 = true)
end Go.Proofs.YtchcjbbnkcodjaaGreatDoor