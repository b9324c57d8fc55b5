/- Simplify: plain. -/
import Derived.Test.YtmblpmegfmgjgaaGreatDoorE62
import Derived.Test.YtmblpmegfmgjgaaGreatDoorE42
import Derived.Test.YtmblpmegfmgjgaaGreatDoorE38
set_option linter.unusedVariables false
set_option linter.unusedSimpArgs false
namespace Go.Proofs.YtmblpmegfmgjgaaGreatDoor
open Go Go.Vc Go.Dig
def numQ (q:Rat):Tr:=.mk 1 0 (sg q) (dg 4294967296 (nu q)) (dg 4294967296 (dn q)) [] []
def mkL (q:Rat):Tr:=if q<0 then nodeT 4 0 [numQ (-q)] else numQ q
def isNeg:Tr→Prop
 | .mk op _ _ _ _ _ _=>op=4
instance (t:Tr):Decidable (isNeg t):=by cases t;unfold isNeg;exact inferInstance
def kidT:Tr→Tr
 | .mk _ _ _ _ _ _ (k::_)=>k
 | t=>t
def negS (e a:Tr):Tr:=match litT a with
 | some v=>mkL (-v)
 | none=>if isNeg a then kidT a else e
def foldQ (op:Int) (x y:Rat):Option Rat:=if op=5 then fitO (x+y) else if op=6 then fitO (x-y) else if op=7 then fitO (x*y) else if y=0 then none else fitO (x / y)
def foldT (op:Int) (a b:Tr):Option Rat:=(litT a).bind fun x=>(litT b).bind fun y=>foldQ op x y
def addS (e a b:Tr):Tr:=if litT a=some 0 then b else if litT b=some 0 then a else if isNeg b then nodeT 6 0 [a,kidT b] else e
def subS (e a b:Tr):Tr:=if litT b=some 0 then a else if litT a=some 0 then negS (nodeT 4 0 [b]) b else if isNeg b then nodeT 5 0 [a,kidT b] else e
def mulS (e a b:Tr):Tr:=if litT a=some 0∨litT b=some 0 then mkL 0 else if litT a=some 1 then b else if litT b=some 1 then a else if litT a=some (-1) then negS (nodeT 4 0 [b]) b else e
def divS (e a b:Tr):Tr:=if litT a=some 0 then mkL 0 else if litT b=some 1 then a else e
def binS (e:Tr) (op:Int) (a b:Tr):Tr:=match foldT op a b with
 | some q=>mkL q
 | none=>if op=5 then addS e a b else if op=6 then subS e a b else if op=7 then mulS e a b else divS e a b
def powV (arg:Int) (a:Tr):Option Rat:=(litT a).bind fun x=>if arg<0∧x=0 then none else fitO (powQ x arg)
def powS (e:Tr) (arg:Int) (a:Tr):Tr:=match powV arg a with
 | some q=>mkL q
 | none=>if arg=0 then mkL 1 else if arg=1 then a else e
def nodeS (op arg:Int) (e:Tr):List Tr→Tr
 | [a]=>if op=4 then negS e a else if op=9 then powS e arg a else e
 | [a,b]=>if op=5∨op=6∨op=7∨op=8 then binS e op a b else e
 | _=>e
mutual
def simT:Tr→Tr
 | .mk op arg neg l m name ks=>nodeS op arg (.mk op arg neg l m name (simTs ks)) (simTs ks)
def simTs:List Tr→List Tr
 | []=>[]
 | t::ts=>simT t::simTs ts
end
/-! nodes that are right, and their sizes -/
theorem numQ_ok {d:Nat} {q:Rat} (hd:d≤30) (h0:0≤q) (hf:fits q):okT d (numQ q):=by
 unfold numQ
 rw [okT,okTs]
 refine ⟨hd,⟨rfl,by decide,by decide,rfl,?_⟩,trivial⟩
 rw [if_pos rfl]
 exact ⟨okR_dg hf,by rw [ratOf_dg];exact h0⟩
def Fit (d n:Nat) (t:Tr):Prop:=okT d t∧szT t≤n
end Go.Proofs.YtmblpmegfmgjgaaGreatDoor
/- A tree keeps its value when it is simplified: plain. -/
namespace Go.Proofs.YtmblpmegfmgjgaaGreatDoor
open Go Go.Vc Go.Dig
section
variable {vals:List (List Nat × Rat)} (hv:∀b∈vals,fits b.2)
include hv
end
end Go.Proofs.YtmblpmegfmgjgaaGreatDoor
/- Values of trees in which literals stand for variables, of copies, of resolved case distinctions: plain. -/
namespace Go.Proofs.YtmblpmegfmgjgaaGreatDoor
open Go Go.Vc Go.Dig
def litsB (vals:List (List Nat × Rat)):List (List Nat × Tr):=vals.map fun b=>(b.1,mkL b.2)
section
variable {vals:List (List Nat × Rat)} (hv:∀b∈vals,fits b.2)
include hv
end
section
variable {vals:List (List Nat × Rat)} (hv:∀b∈vals,fits b.2)
include hv
end
end Go.Proofs.YtmblpmegfmgjgaaGreatDoor