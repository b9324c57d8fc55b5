/- Values of trees, the document's side: operations on values. -/
import Derived.Test.YtmblpmegfmgjgaaGreatDoorE62
import Derived.Test.YtmblpmegfmgjgaaGreatDoorL4
set_option linter.unusedVariables false
set_option linter.unusedSimpArgs false
namespace Go.Proofs.YtmblpmegfmgjgaaGreatDoor
open Go Go.Vc Go.Dig
theorem sr_of {q:Rat} (h:fits q):Sr 128 q:=⟨((fits16 q).1 h).1,((fits16 q).1 h).2⟩
def RQ (h:Heap) (v:Value) (x:Option Rat):Prop:=∃n,∃s t:Sl,∃bb,v=.tuple #[.agg #[.bool n,s.val,t.val],.bool bb]∧(bb=true→∃q,x=some q∧n=sg q∧IsQ h s t q∧Sr 4294967296 q)∧(bb=false→x=none)
theorem sr_div {q r:Rat} (hq:Sr 128 q) (hr:Sr 128 r) (h0:nu r≠0):Sr 256 (q / r):=by
 rw [Rat.div_def]
 exact sr_mul hq (sr_inv hr h0)
end Go.Proofs.YtmblpmegfmgjgaaGreatDoor