/- Linear expressions, on both sides. -/
import Derived.Test.YtbgicephinomlaaGreatDoorE42
set_option linter.unusedVariables false
set_option linter.unusedSimpArgs false
set_option maxRecDepth 20000
namespace Go.Proofs.YtbgicephinomlaaGreatDoor
open Go Go.Vc Go.Dig
end Go.Proofs.YtbgicephinomlaaGreatDoor
/- Linear expressions: the document's side; periods, on both sides; the laws. -/
namespace Go.Proofs.YtbgicephinomlaaGreatDoor
open Go Go.Vc Go.Dig
end Go.Proofs.YtbgicephinomlaaGreatDoor
/- Periodic: the laws. -/
namespace Go.Proofs.YtbgicephinomlaaGreatDoor
open Go Go.Vc Go.Dig
def perX (nm:List Nat) (t:Tr):Bool × Int:=if ValT t then (if IsNm nm then (perP nm t,0) else (false,41)) else (false,40)
theorem lnode_ct (op:Int) (ho:-9223372036854775808≤op∧op≤9223372036854775807) (t u:Tr) (h:Heap) (vs us:List Value) (w:IsE h vs t) (w':IsE h us u):Fn0 T F.law04_node [.int .i64 op,.agg vs.toArray,.agg us.toArray] h fun v h'=>VE h' v (nodeT op 0 [t,u]):=by
 obtain ⟨⟨op0,arg,neg,l,m,name,ks⟩,ht⟩:∃x,x=t:=⟨_,rfl⟩
 obtain ⟨a,b,s,hvs,-⟩:=(ht.symm▸w:IsE h vs (.mk op0 arg neg l m name ks)).isK
 obtain ⟨⟨op1,arg1,neg1,l1,m1,name1,ks1⟩,hu⟩:∃x,x=u:=⟨_,rfl⟩
 obtain ⟨a1,b1,s1,hus,-⟩:=(hu.symm▸w':IsE h us (.mk op1 arg1 neg1 l1 m1 name1 ks1)).isK
 subst hvs hus
 refine f0C ok D.law04_node rfl ?_
 conv=>whnf
 repeat ((first|refine oI.z ?_|refine cI.z ?_);conv=>whnf)
 repeat' first|((first|((first|refine oI.z ?_|refine cI.z ?_))|intro (_:Nat)|(show LdN _ _ _ _ _;first|refine LdN.o 1 rfl rfl ?_|refine LdN.o 2 rfl rfl ?_)|refine Sto.l 1 rfl rfl rfl ?_) <;> (conv=>whnf))
 exact RN.keep 0 rfl fun hle=>RN.a (VE.node ho (by decide) (IsK.two w w' rfl rfl hle))
attribute [local irreducible] Vc.Fn
end Go.Proofs.YtbgicephinomlaaGreatDoor