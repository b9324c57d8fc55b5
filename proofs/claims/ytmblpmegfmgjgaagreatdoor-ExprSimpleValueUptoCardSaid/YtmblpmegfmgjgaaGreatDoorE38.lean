/- Case distinctions: plain. -/
import Derived.Test.YtmblpmegfmgjgaaGreatDoorE33
set_option linter.unusedVariables false
set_option linter.unusedSimpArgs false
namespace Go.Proofs.YtmblpmegfmgjgaaGreatDoor
open Go Go.Vc Go.Dig
def roughB (op:Int):Prop:=12≤op∧op≤15
instance (op:Int):Decidable (roughB op):=by unfold roughB;exact inferInstance
mutual
def tagsT:Tr→List (Int × List Nat)
 | .mk op _ _ _ _ name ks=>(op,name)::tagsTs ks
def tagsTs:List Tr→List (Int × List Nat)
 | []=>[]
 | t::ts=>tagsT t++tagsTs ts
end
mutual
def resT:Tr→Option (Tr × Tr × Tr)
 | .mk op arg neg l m name ks=>match resTs (if op=15 then 1 else ks.length) ks with
  | some (i,c,y,z)=>some (c,.mk op arg neg l m name (ks.set i y),.mk op arg neg l m name (ks.set i z))
  | none=>if op=12 then some (ks.getD 0 zeroT,ks.getD 0 zeroT,nodeT 4 0 [ks.getD 0 zeroT]) else if op=13 then some (nodeT 6 0 [ks.getD 1 zeroT,ks.getD 0 zeroT],ks.getD 0 zeroT,ks.getD 1 zeroT)
   else if op=14 then some (nodeT 6 0 [ks.getD 0 zeroT,ks.getD 1 zeroT],ks.getD 0 zeroT,ks.getD 1 zeroT) else if op=15 then some (ks.getD 0 zeroT,ks.getD 1 zeroT,ks.getD 2 zeroT) else none
def resTs:Nat→List Tr→Option (Nat × Tr × Tr × Tr)
 | 0,_=>none
 | _+1,[]=>none
 | n+1,t::ts=>match resT t with
  | some r=>some (0,r)
  | none=>match resTs n ts with
   | some (i,r)=>some (i+1,r)
   | none=>none
end
mutual
def cntC:Tr→Nat
 | .mk op _ _ _ _ _ ks=>(if roughB op then 1 else 0)+cntCs ks
def cntCs:List Tr→Nat
 | []=>0
 | t::ts=>cntC t+cntCs ts
end
def topT (op:Int) (ks:List Tr):Option (Tr × Tr × Tr):=
 if op=12 then some (ks.getD 0 zeroT,ks.getD 0 zeroT,nodeT 4 0 [ks.getD 0 zeroT]) else if op=13 then some (nodeT 6 0 [ks.getD 1 zeroT,ks.getD 0 zeroT],ks.getD 0 zeroT,ks.getD 1 zeroT)
   else if op=14 then some (nodeT 6 0 [ks.getD 0 zeroT,ks.getD 1 zeroT],ks.getD 0 zeroT,ks.getD 1 zeroT) else if op=15 then some (ks.getD 0 zeroT,ks.getD 1 zeroT,ks.getD 2 zeroT) else none
end Go.Proofs.YtmblpmegfmgjgaaGreatDoor