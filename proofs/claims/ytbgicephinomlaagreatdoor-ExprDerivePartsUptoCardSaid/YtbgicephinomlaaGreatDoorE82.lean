/- Simplify: the document's rules of one kid. -/
import Derived.Test.YtbgicephinomlaaGreatDoorE76
import Derived.Test.YtbgicephinomlaaGreatDoorE63
import Derived.Test.YtbgicephinomlaaGreatDoorE55
import Derived.Test.YtbgicephinomlaaGreatDoorE29
set_option linter.unusedVariables false
set_option linter.unusedSimpArgs false
namespace Go.Proofs.YtbgicephinomlaaGreatDoor
open Go Go.Vc Go.Dig
def QV (h:Heap) (v:Value) (P:Rat):Prop:=∃a b:Sl,v=.agg #[.bool (sg P),a.val,b.val]∧IsQ h a b P∧Sr 4294967296 P∧Sz 1073741824 P
theorem nodeS_two {op arg:Int} {e a b:Tr} (h:op=5∨op=6∨op=7∨op=8):nodeS op arg e [a,b]=binS e op a b:=if_pos h
def simY (t:Tr):Tr × Nat:=if ValT t then (simT t,0) else (zeroT,40)
end Go.Proofs.YtbgicephinomlaaGreatDoor