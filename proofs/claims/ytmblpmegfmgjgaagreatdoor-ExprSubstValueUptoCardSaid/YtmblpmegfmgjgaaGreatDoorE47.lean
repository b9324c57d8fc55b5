/- Rows of kids copied, cut and turned; with, replaced (one kid). -/
import Derived.Test.YtmblpmegfmgjgaaGreatDoorE37
import Derived.Test.YtmblpmegfmgjgaaGreatDoorE42
set_option linter.unusedVariables false
set_option linter.unusedSimpArgs false
namespace Go.Vc
open Go Go.Dig
end Go.Vc
namespace Go.Proofs.YtmblpmegfmgjgaaGreatDoor
open Go Go.Vc Go.Dig
end Go.Proofs.YtmblpmegfmgjgaaGreatDoor
/- One kid turned, on both sides; nodes made. -/
namespace Go.Vc
open Go Go.Dig
end Go.Vc
namespace Go.Proofs.YtmblpmegfmgjgaaGreatDoor
open Go Go.Vc Go.Dig
set_option maxRecDepth 20000 in
theorem enode_ct (op arg:Int) (ho:-9223372036854775808≤op∧op≤9223372036854775807) (ha:-9223372036854775808≤arg∧arg≤9223372036854775807) (ks:List Tr) (s:Sl) (h:Heap) (hk:IsK h s ks):Fn0 T F.expr_node [.int .i64 op,.int .i64 arg,s.val] h fun v h'=>VE h' v (nodeT op arg ks):=by
 refine fn0_of_codeI ok D.expr_node rfl ?_
 conv=>whnf
 repeat ((first | refine opsI.step ?_ | refine codeI.step ?_);conv=>whnf)
 repeat' first | ((first | ((first | refine opsI.step ?_ | refine codeI.step ?_)) | intro (_:Nat) | refine LdN.own 0 rfl rfl ?_ | refine Sto.lit 0 rfl rfl rfl ?_) <;> (conv=>whnf))
 exact RetN.all (VE.node ho ha hk)
end Go.Proofs.YtmblpmegfmgjgaaGreatDoor