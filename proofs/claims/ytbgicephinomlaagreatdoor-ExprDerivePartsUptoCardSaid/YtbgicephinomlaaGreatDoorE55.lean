/- Rows of kids copied, cut and turned; with, replaced (one kid). -/
import Derived.Test.YtbgicephinomlaaGreatDoorE37
import Derived.Test.YtbgicephinomlaaGreatDoorE42
set_option linter.unusedVariables false
set_option linter.unusedSimpArgs false
set_option maxRecDepth 20000
namespace Go.Vc
open Go Go.Dig
end Go.Vc
namespace Go.Proofs.YtbgicephinomlaaGreatDoor
open Go Go.Vc Go.Dig
end Go.Proofs.YtbgicephinomlaaGreatDoor
/- One kid turned, on both sides; nodes made. -/
namespace Go.Vc
open Go Go.Dig
end Go.Vc
namespace Go.Proofs.YtbgicephinomlaaGreatDoor
open Go Go.Vc Go.Dig
theorem enode_ct (op arg:Int) (ho:-9223372036854775808≤op∧op≤9223372036854775807) (ha:-9223372036854775808≤arg∧arg≤9223372036854775807) (ks:List Tr) (s:Sl) (h:Heap) (hk:IsK h s ks):Fn0 T F.expr_node [.int .i64 op,.int .i64 arg,s.val] h fun v h'=>VE h' v (nodeT op arg ks):=by
 refine f0C ok D.expr_node rfl ?_
 conv=>whnf
 repeat ((first|refine oI.z ?_|refine cI.z ?_);conv=>whnf)
 repeat' first|((first|((first|refine oI.z ?_|refine cI.z ?_))|intro (_:Nat)|refine LdN.o 0 rfl rfl ?_|refine Sto.l 0 rfl rfl rfl ?_) <;> (conv=>whnf))
 exact RN.a (VE.node ho ha hk)
def sizX (t:Tr):Nat × Nat:=if ValT t then (szT t,0) else (0,40)
def smX (t:Tr):Bool × Nat:=if ValT t then (dec (resT t=none),0) else (false,40)
end Go.Proofs.YtbgicephinomlaaGreatDoor