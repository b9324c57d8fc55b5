/- Rows of kids copied, cut and turned; with, replaced (one kid). -/
import Derived.Test.YtmblpmegfmgjgaaGreatDoorE37
import Derived.Test.YtmblpmegfmgjgaaGreatDoorE42
set_option linter.unusedVariables false
set_option linter.unusedSimpArgs false
set_option maxRecDepth 20000
namespace Go.Vc
open Go Go.Dig
end Go.Vc
namespace Go.Proofs.YtmblpmegfmgjgaaGreatDoor
open Go Go.Vc Go.Dig
end Go.Proofs.YtmblpmegfmgjgaaGreatDoor
/- One kid turned, on both sides; nodes made. -/
namespace Go.Vc
open Go Go.Dig
end Go.Vc
namespace Go.Proofs.YtmblpmegfmgjgaaGreatDoor
open Go Go.Vc Go.Dig
theorem enode_ct (op arg:Int) (ho:-9223372036854775808≤op∧op≤9223372036854775807) (ha:-9223372036854775808≤arg∧arg≤9223372036854775807) (ks:List Tr) (s:Sl) (h:Heap) (hk:IsK h s ks):Fn0 T F.expr_node [.int .i64 op,.int .i64 arg,s.val] h fun v h'=>VE h' v (nodeT op arg ks):=by
 refine f0C ok D.expr_node rfl ?_
 conv=>whnf
 repeat ((first|refine oI.z ?_|refine cI.z ?_);conv=>whnf)
 repeat' first|((first|((first|refine oI.z ?_|refine cI.z ?_))|intro (_:Nat)|refine LdN.own 0 rfl rfl ?_|refine Sto.lit 0 rfl rfl rfl ?_) <;> (conv=>whnf))
 exact RetN.all (VE.node ho ha hk)
theorem rone_ct (op arg:Int) (ho:-9223372036854775808≤op∧op≤9223372036854775807) (ha:-9223372036854775808≤arg∧arg≤9223372036854775807) (t:Tr) (h:Heap) (vs:List Value) (w:IsE h vs t):Fn0 T F.ref04_one [.int .i64 op,.int .i64 arg,.agg vs.toArray] h fun v h'=>VE h' v (nodeT op arg [t]):=by
 obtain ⟨⟨op0,arg0,neg,l,m,name,ks⟩,ht⟩:∃x,x=t:=⟨_,rfl⟩
 obtain ⟨a,b,s,hvs,-⟩:=(ht.symm▸w:IsE h vs (.mk op0 arg0 neg l m name ks)).isK
 subst hvs
 refine f0C ok D.ref04_one rfl ?_
 conv=>whnf
 repeat ((first|refine oI.z ?_|refine cI.z ?_);conv=>whnf)
 repeat' first|((first|((first|refine oI.z ?_|refine cI.z ?_))|intro (_:Nat)|refine LdN.own 1 rfl rfl ?_|refine Sto.lit 1 rfl rfl rfl ?_) <;> (conv=>whnf))
 exact RetN.keep 0 rfl fun hle=>RetN.all (VE.node ho ha (IsK.one w rfl hle))
theorem rtwo_ct (op:Int) (ho:-9223372036854775808≤op∧op≤9223372036854775807) (t u:Tr) (h:Heap) (vs us:List Value) (w:IsE h vs t) (w':IsE h us u):Fn0 T F.ref04_two [.int .i64 op,.agg vs.toArray,.agg us.toArray] h fun v h'=>VE h' v (nodeT op 0 [t,u]):=by
 obtain ⟨⟨op0,arg,neg,l,m,name,ks⟩,ht⟩:∃x,x=t:=⟨_,rfl⟩
 obtain ⟨a,b,s,hvs,-⟩:=(ht.symm▸w:IsE h vs (.mk op0 arg neg l m name ks)).isK
 obtain ⟨⟨op1,arg1,neg1,l1,m1,name1,ks1⟩,hu⟩:∃x,x=u:=⟨_,rfl⟩
 obtain ⟨a1,b1,s1,hus,-⟩:=(hu.symm▸w':IsE h us (.mk op1 arg1 neg1 l1 m1 name1 ks1)).isK
 subst hvs hus
 refine f0C ok D.ref04_two rfl ?_
 conv=>whnf
 repeat ((first|refine oI.z ?_|refine cI.z ?_);conv=>whnf)
 repeat' first|((first|((first|refine oI.z ?_|refine cI.z ?_))|intro (_:Nat)|(show LdN _ _ _ _ _;first|refine LdN.own 1 rfl rfl ?_|refine LdN.own 2 rfl rfl ?_)|refine Sto.lit 1 rfl rfl rfl ?_) <;> (conv=>whnf))
 exact RetN.keep 0 rfl fun hle=>RetN.all (VE.node ho (by decide) (IsK.two w w' rfl rfl hle))
end Go.Proofs.YtmblpmegfmgjgaaGreatDoor