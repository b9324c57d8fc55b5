/- The program's values of trees. -/
import Derived.Test.YtmblpmegfmgjgaaGreatDoorE62
set_option linter.unusedVariables false
set_option linter.unusedSimpArgs false
namespace Go.Proofs.YtmblpmegfmgjgaaGreatDoor
open Go Go.Vc Go.Dig
def QC (h:Heap) (xs:List Value) (qs:List Rat):Prop:=∀(j:Nat) q,qs[j]?=some q→∃ng,∃a b:Sl,(∀i v,[Value.bool ng,a.val,b.val][i]?=some v→xs[3*j+i]?=some v)∧IsNum h ng a b (some q)
end Go.Proofs.YtmblpmegfmgjgaaGreatDoor
/- Value: the program's side. -/
namespace Go.Vc
open Go Go.Dig
end Go.Vc
namespace Go.Proofs.YtmblpmegfmgjgaaGreatDoor
open Go Go.Vc Go.Dig
end Go.Proofs.YtmblpmegfmgjgaaGreatDoor