/- Values of trees, the document's side: operations on values. -/
import Derived.Test.YtmblpmegfmgjgaaGreatDoorE62
import Derived.Test.YtmblpmegfmgjgaaGreatDoorL4
set_option linter.unusedVariables false
set_option linter.unusedSimpArgs false
namespace Go.Proofs.YtmblpmegfmgjgaaGreatDoor
open Go Go.Vc Go.Dig
def RQ (h:Heap) (v:Value) (x:Option Rat):Prop:=∃n,∃s t:Sl,∃bb,v=.tuple #[.agg #[.bool n,s.val,t.val],.bool bb]∧(bb=true→∃q,x=some q∧n=sg q∧IsQ h s t q∧Sr 4294967296 q)∧(bb=false→x=none)
end Go.Proofs.YtmblpmegfmgjgaaGreatDoor